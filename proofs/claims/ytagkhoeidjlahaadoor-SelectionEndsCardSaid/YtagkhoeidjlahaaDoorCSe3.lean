-- Written by pack2.py: this session's texts and the printer's, pruned.
import Derived.Test.YtagkhoeidjlahaaDoorCSe2
import Derived.LoopIn
import Derived.LoopNIn
import Derived.Outline
import Derived.OwnWalkIn
import Derived.RangeFuncBound
import Derived.RangeFuncCalls
import Derived.RangeFuncLeaves
import Derived.RangeFuncNested
import Derived.Shelf.Abstract
import Derived.TacticsInMore
namespace Go.Proofs.YtagkhoeidjlahaaDoor.G
open Go.RowKit Go.Proofs.YtagkhoeidjlahaaDoorW.PrintWords Go.Proofs.YtagkhoeidjlahaaDoorW.PrintLast Go.Proofs.YtagkhoeidjlahaaDoorW.PrintMore
attribute [local go_sem] max2_int min2_int max_two min_two max_three min_three max_four min_four
set_option linter.unusedVariables false
set_option linter.unusedSimpArgs false
section poa
mutual

def posKids (p : List Int) (i : Int) : List S36 → List (List Int)
 | [] => [p ++ [i]]
 | x :: l => (p ++ [i]) :: (posItem p i x ++ posKids p (i + 1) l)
def posItem (p : List Int) (i : Int) : S36 → List (List Int)
 | ⟨_, _, _, l⟩ => posSlots p i 0 l
def posSlots (p : List Int) (i s : Int) : List S36 → List (List Int)
 | [] => []
 | y :: l => posSlot (p ++ [i, s]) y ++ posSlots p i (s + 1) l
def posSlot (p : List Int) : S36 → List (List Int)
 | ⟨_, _, _, l⟩ => posKids p 0 l
end
theorem posItem_eq (p : List Int) (i : Int) (x : S36) : posItem p i x = posSlots p i 0 x.f3 := by cases x; simp [posItem]
theorem posSlot_eq (p : List Int) (y : S36) : posSlot p y = posKids p 0 y.f3 := by cases y; simp [posSlot]
open Go.Shelf
attribute [local go_sem] Oper.semAt_some
def Keep (W W' : World) : Prop := W.heap.size ≤ W'.heap.size ∧ ∀ (k : Nat) (cells : Array Value) (t : Nat) (fr : Nat × Nat), W.heap[k]? = some (.cells cells t fr) → (t = 3 ∨ t = 36) → W'.heap[k]? = some (.cells cells t fr)
theorem Keep.refl (W : World) : Keep W W := ⟨Nat.le_refl _, fun _ _ _ _ h _ => h⟩
theorem Keep.trans {A B C : World} (h : Keep A B) (k : Keep B C) : Keep A C := ⟨Nat.le_trans h.1 k.1, fun i cs t fr hc ht => k.2 i cs t fr (h.2 i cs t fr hc ht) ht⟩
theorem Keep.below {A B : World} (h : Below A.heap.size A B) : Keep A B := ⟨h.size, fun i cs t fr hc _ => blk_below hc h⟩
theorem Keep.R {W W' : World} {base : Nat} {ok : Nat → Prop} {v : Value} {xs : List Int} (hk : Keep W W') (h : Kd.R (Kd.int .i64) 3 W base ok v xs) : Kd.R (Kd.int .i64) 3 W' base ok v xs := by
 refine Kd.R_mono (Kd.R_step (Kd.R_bound h) fun k hok _ => ?_) (fun k hk => hk.1)
 obtain ⟨_, _, _, q, hq, cells, hc⟩ := hok
 have : q = 3 := by simpa [Kd.int, Kd.scalar] using hq
 subst this
 rw [hc, hk.2 _ _ _ _ hc (.inl rfl)]
structure Yl (l N : Nat) (w0 : World) (J : List (List Int) → World → Prop) : Prop where
 below : ∀ {pre : List (List Int)} {W : World}, J pre W → Below w0.heap.size w0 W
 step : ∀ {pre : List (List Int)} {W W' : World}, J pre W → Below W.heap.size W W' → J pre W'
 yield : ∀ (m : Nat) (pre : List (List Int)) (xs : List Int) (v : Value) (W : World), J pre W → pre.length < N → Kd.R (Kd.int .i64) 3 W w0.heap.size (fun _ => True) v xs →
  YieldAt Fence.wide m Tryd.prog l #[v] W fun e W' => e = .returned (.bool true) ∧ J (pre ++ [xs]) W' ∧ Keep W W'
theorem posKids_length : ∀ (p : List Int) (i : Int) (l : List S36), 1 ≤ (posKids p i l).length := fun p i l => by cases l <;> simp [posKids]
theorem yield_below {wr w2 w3 : World} {v2 : Value} {t : List Int} {o : Obj} (hb2 : Below wr.heap.size wr w2) (ho2 : Kd.R (Kd.int .i64) 3 w2 wr.heap.size (fun _ => True) v2 t) (hg3 : (w2.alloc o).grownBy w3 v2.ownBlock) : Below wr.heap.size wr w3 :=
 pw_below_grown (below_alloc hb2 o) v2.ownBlock (by have := hb2.size; simp; omega) hg3 (fun k hk => Kd.R_base ho2 k hk)
theorem yield_row {w3 : World} {base b0 n : Nat} {v3 : Value} {t : List Int} {x : Int} (h : w3.ownsRow base 3 1 v3 n (encs (Value.int .i64) t ++ [.int .i64 x])) (hb : b0 ≤ base) : Kd.R (Kd.int .i64) 3 w3 b0 (fun _ => True) v3 (t ++ [x]) := by
 have hl : n = (t ++ [x]).length := by have := h.1; simp [encs] at this; simp; omega
 subst hl
 exact Kd.R_lower (Kd.R_of_own (by simpa [encs] using h) (fun _ _ => trivial)) hb
def walk10.T : Bool × List (List Nat × List Nat) := (true, [([], []), ([], []), ([1], [1]), ([], []), ([], []), ([3, 4], [3, 4]), ([2, 5, 2], [2, 5]), ([], []), ([0, 6, 7, 6], [0, 6, 7]), ([8], [8])])
def walk10.B : List Nat := [0, 0, 2, 0, 0, 24, 62, 0, 255, 511]
theorem walk10.tab : rtab .any (opsOf Tryd.f103 10) = walk10.T := by kernel_rfl
theorem walk10.bits : waitsOk walk10.T.2 walk10.B = true := by kernel_rfl
set_option maxHeartbeats 4000000 in
set_option maxRecDepth 100000 in
theorem walk_calls {l N : Nat} {w0 : World} {J : List (List Int) → World → Prop} (Y : Yl l N w0 J) (hN : N ≤ 1000000) : ∀ (sz : Nat) (kids : List S36), cntL kids ≤ sz → ∀ (k0 : Int) (s0 : ByteArray) (c0 : Int) (A : Option Addr) (c : Nat) (vp : Value) (path : List Int) (pre : List (List Int)) (W : World),
  Kd.C k36 w0 A kids.length kids → kids.length ≤ c → Kd.R (Kd.int .i64) 3 W w0.heap.size (fun _ => True) vp path → J pre W → pre.length + (posKids path 0 kids).length ≤ N → path.length + 2 * sz ≤ 1000000 →
  Calls Tryd.prog 103 #[.agg #[.int .i64 k0, .string s0, .int .i64 c0, .slice A kids.length c], vp, .func (.yield l) #[] #[]] W fun e W' => e = .returned (.bool true) ∧ J (pre ++ posKids path 0 kids) W' ∧ Keep W W' := by
 intro sz
 induction sz using Nat.strongRecOn with
 | _ sz ih =>
 intro kids hsz k0 s0 c0 A c vp path pre W hC hc hp hJ hNl hpl
 have hu36 := Tryd.underlying36
 have hm := hC.2.1
 have HR := Aside0.mk hC
 have HC := Aside0.mk hc
 have HP := Aside0.mk hp
 have HJ := Aside0.mk hJ
 have HN := Aside0.mk hNl
 clear hC hc hp hJ hNl
 refine (callsIn_wide (n := 3)).1 (callsIn_of_wp Tryd.func103 rfl trivial ?_ rfl)
 simp only [Tryd.ntmps103, List.size_toArray, List.length_cons, List.length_nil, Nat.reduceAdd, Nat.reduceSub, Array.replicate_succ, Array.replicate_zero, List.push_toArray, List.append_toArray, List.nil_append, List.cons_append]
 obtain ⟨A1, c1, rfl, hc1, hC1⟩ := Kd.R_reads HP.out
 have HC1 := Aside0.mk hc1
 clear hc1 hC1
 have HJ0 := Aside0.mk (Y.step HJ.out (below_alloc (Below.refl W.heap.size W) (.cells #[.int .i64 k0, .string s0, .int .i64 c0, .slice A kids.length c] 36)))
 have HX0 := Aside0.mk (blk_new W (.cells #[.int .i64 k0, .string s0, .int .i64 c0, .slice A kids.length c] 36))
 have HP0 := Aside0.mk (Kd.R_alloc HP.out (.cells #[.int .i64 k0, .string s0, .int .i64 c0, .slice A kids.length c] 36))
 have HK0 := Aside0.mk (Keep.below (below_alloc (Below.refl W.heap.size W) (.cells #[.int .i64 k0, .string s0, .int .i64 c0, .slice A kids.length c] 36)))
 gi_wp2
 gi_loopw [7] (fun v7 wr => ∃ (i : Nat) (dn : List (List Int)), v7 = .int .i64 i ∧ Aside0 (i ≤ kids.length) ∧ Aside0 (dn ++ posKids path i (kids.drop i) = posKids path 0 kids) ∧ Aside0 (J (pre ++ dn) wr) ∧ Aside0 (Keep W wr) ∧ Aside0 (wr.heap[W.heap.size]? = some (.cells #[.int .i64 k0, .string s0, .int .i64 c0, .slice A kids.length c] 36 (0, 0))) ∧ Aside0 (Kd.R (Kd.int .i64) 3 wr w0.heap.size (fun _ => True) (.slice A1 path.length c1) path)) (fun v7 _ => kids.length + 1 - (intOf v7).toNat)
 case atStart => exact ⟨0, [], rfl, ⟨Nat.zero_le _⟩, ⟨by simp⟩, ⟨by simpa using HJ0.out⟩, HK0, HX0, HP0⟩
 case round =>
  obtain ⟨i, dn, rfl, HI, HE, HJi, HKi, HXi, HPi⟩ := hrel
  clear HJ0 HX0 HP0 HK0 HJ
  have hi := HI.out
  have hb1 : decide ((i : Int) ≤ (kids.length : Int)) = true := decide_eq_true (by omega)
  have qx3 : wr.cell? ⟨W.heap.size, 3, none⟩ = some (.slice A kids.length c) := (blk_cell HXi.out 3).trans rfl
  have hC1 := Kd.R_reads' HPi.out
  have HC1r := Aside0.mk hC1.2.2
  clear hC1
  have hlp : path.length < 17592186044416 := by omega
  obtain ⟨i0, hi0, hz0, hz1, hz2⟩ := info_parts info3
  have hlen : (pre ++ dn).length < N := by
   have h1 := congrArg List.length HE.out
   have h2 := posKids_length path i (kids.drop i)
   have h3 := HN.out
   simp only [List.length_append] at h1 ⊢
   omega
  by_cases hlast : i = kids.length
  ·
   have hd2 : decide ((i : Int) = (kids.length : Int)) = true := decide_eq_true (by omega)
   have hd3 : ((i : Int) == (kids.length : Int)) = true := by rw [beq_iff_eq]; omega
   have HLast := Aside0.mk hlast
   clear hlast
   gi_wp2_with (first | ((refine ⟨trivial, ?_⟩); gi_at_call 81; refine (callsIn_wide.2 (slices_Clone_int_int.calls A1 c1 path path _ HC1r.out HC1.out (by simp [slices_Clone_int_int.f, hlp]))).mono ?_; rintro e w2 ⟨v2, rfl, ho2, hb2⟩; have HO2 := Aside0.mk ho2; have HB2 := Aside0.mk hb2; have OW2 := Aside0.mk (Kd.own_of_R ho2); have hz2' := hb2.size; clear ho2 hb2) | (gi_at_builtin; refine wpListIn_append_own _ rfl (.tmp 19) (.tmp 21) 26 rfl wr.heap.size 3 i0 (.int .i64 0) 1 8 Tryd.underlying26 hi0 hz0 hz1 hz2 rfl (by decide) v2 path.length (encs (Value.int .i64) path) rfl (OW2.out.alloc _) ⟨w2.heap.size, 0, none⟩ 1 1 [.int .i64 i] rfl rfl ?ac1 ?ac2 ?ac3 ?ac4 ?ac5 ?_; (case ac1 => exact cell_one_new _ _ _); (case ac2 => simp [Value.oneCell']); (case ac3 => unfold maxLen; omega); (case ac4 => omega); (case ac5 => simp; omega); intro v3 w3 hown3 hg3 _; have hB3 := yield_below (HB2.out) (HO2.out) hg3; have hR3 := yield_row hown3 (Nat.le_trans (Y.below HJi.out).size (Nat.le_refl _)); obtain ⟨fn, tmps, assign, body, hy, hRd⟩ := Y.yield 2 (pre ++ dn) (path ++ [(i : Int)]) v3 w3 (Y.step HJi.out hB3) hlen hR3; have HB3 := Aside0.mk hB3; have HRd := Aside0.mk hRd; clear hown3 hg3 hB3 hR3 hRd) | (refine HRd.out.mono ?_; rintro e w4 ⟨rfl, hj4, hk4⟩; have HJ4 := Aside0.mk hj4; have HK4 := Aside0.mk hk4; have HX4 := Aside0.mk (hk4.2 _ _ _ _ (blk_below HXi.out HB3.out) (.inr rfl)); have qx4 : w4.cell? ⟨W.heap.size, 3, none⟩ = some (.slice A kids.length c) := (blk_cell HX4.out 3).trans rfl; clear hj4 hk4 hy))
   all_goals (go_ret; refine ⟨rfl, ?_, HKi.out.trans ((Keep.below HB3.out).trans HK4.out)⟩; have hE := HE.out; rw [HLast.out, List.drop_length, posKids, ← HLast.out] at hE; rw [← hE, ← List.append_assoc]; exact HJ4.out)
  ·
   have hi2 : i < kids.length := by omega
   have hd2 : decide ((i : Int) = (kids.length : Int)) = false := decide_eq_false (by omega)
   have hd3 : ((i : Int) == (kids.length : Int)) = false := beq_eq_false_iff_ne.2 (by omega)
   obtain ⟨ad, A3, c3, e, hx0, hx1, hx2, hx3, hl3, hi3⟩ := at_T36 HR.out (i : Int) (by omega) (by omega)
   simp only [Int.toNat_natCast] at hx0 hx1 hx2 hx3
   obtain ⟨y, hy⟩ : ∃ y, y = rd_T36 kids (i : Int) := ⟨_, rfl⟩
   rw [← hy] at hx0 hx1 hx2 hx3 hl3 hi3
   have hd : kids.drop i = y :: kids.drop (i + 1) := by rw [List.drop_eq_getElem_cons hi2, hy]; simp [rd_T36, hi2]
   have HY := Aside0.mk hd
   have HR3 := Aside0.mk hi3
   have HC3 := Aside0.mk hl3
   clear hy hd hi3 hl3
   subst e
   gi_wp2_with (first | ((refine ⟨trivial, ?_⟩); gi_at_call 81; refine (callsIn_wide.2 (slices_Clone_int_int.calls A1 c1 path path _ HC1r.out HC1.out (by simp [slices_Clone_int_int.f, hlp]))).mono ?_; rintro e w2 ⟨v2, rfl, ho2, hb2⟩; have HO2 := Aside0.mk ho2; have HB2 := Aside0.mk hb2; have OW2 := Aside0.mk (Kd.own_of_R ho2); have hz2' := hb2.size; clear ho2 hb2) | (gi_at_builtin; refine wpListIn_append_own _ rfl (.tmp 19) (.tmp 21) 26 rfl wr.heap.size 3 i0 (.int .i64 0) 1 8 Tryd.underlying26 hi0 hz0 hz1 hz2 rfl (by decide) v2 path.length (encs (Value.int .i64) path) rfl (OW2.out.alloc _) ⟨w2.heap.size, 0, none⟩ 1 1 [.int .i64 i] rfl rfl ?ac1 ?ac2 ?ac3 ?ac4 ?ac5 ?_; (case ac1 => exact cell_one_new _ _ _); (case ac2 => simp [Value.oneCell']); (case ac3 => unfold maxLen; omega); (case ac4 => omega); (case ac5 => simp; omega); intro v3 w3 hown3 hg3 _; have hB3 := yield_below (HB2.out) (HO2.out) hg3; have hR3 := yield_row hown3 (Nat.le_trans (Y.below HJi.out).size (Nat.le_refl _)); obtain ⟨fn, tmps, assign, body, hy, hRd⟩ := Y.yield 2 (pre ++ dn) (path ++ [(i : Int)]) v3 w3 (Y.step HJi.out hB3) hlen hR3; have HB3 := Aside0.mk hB3; have HRd := Aside0.mk hRd; clear hown3 hg3 hB3 hR3 hRd) | (refine HRd.out.mono ?_; rintro e w4 ⟨rfl, hj4, hk4⟩; have HJ4 := Aside0.mk hj4; have HK4 := Aside0.mk hk4; have HX4 := Aside0.mk (hk4.2 _ _ _ _ (blk_below HXi.out HB3.out) (.inr rfl)); have qx4 : w4.cell? ⟨W.heap.size, 3, none⟩ = some (.slice (some ad) kids.length c) := (blk_cell HX4.out 3).trans rfl; clear hj4 hk4 hy; (have hbw := Y.below HJ4.out; have hy0 := (hbw.cell (World.block_lt_of_cell? w0 _ hx0)).trans hx0; have hy3 := (hbw.cell (World.block_lt_of_cell? w0 _ hx3)).trans hx3; clear hbw)))
   have HKb := Aside0.mk ((Keep.below HB3.out).trans HK4.out)
   have HP4 := Aside0.mk (Keep.R HKb.out HPi.out)
   have HKW := Aside0.mk (HKi.out.trans HKb.out)
   have hm3 := HR3.out.2.1
   have HLast := Aside0.mk hlast
   clear HKb HKi HB3 HK4 HPi HRd HO2 HB2 OW2 hz2' hlast HJi HXi qx3 hb1 hd2 hd3
   gi_loopw [37] (fun v37 wt => ∃ (s : Nat) (d2 : List (List Int)), v37 = .int .i64 s ∧ Aside0 (s ≤ y.f3.length) ∧ Aside0 (d2 ++ posSlots path i s (y.f3.drop s) = posItem path i y) ∧ Aside0 (J (pre ++ dn ++ [path ++ [(i : Int)]] ++ d2) wt) ∧ Aside0 (Keep W wt) ∧ Aside0 (wt.heap[W.heap.size]? = some (.cells #[.int .i64 k0, .string s0, .int .i64 c0, .slice (some ad) kids.length c] 36 (0, 0))) ∧ Aside0 (Kd.R (Kd.int .i64) 3 wt w0.heap.size (fun _ => True) (.slice A1 path.length c1) path)) (fun v37 _ => y.f3.length + 1 - (intOf v37).toNat)
   case atStart => exact ⟨0, [], rfl, ⟨Nat.zero_le _⟩, ⟨by simp [posItem_eq]⟩, ⟨by simpa using HJ4.out⟩, HKW, HX4, HP4⟩
   case round =>
    obtain ⟨s, d2, rfl, HS, HD, HJs, HKs, HXs, HPs⟩ := hrel
    clear HJ4 HKW HX4 HP4
    have hs := HS.out
    by_cases hsl : s = y.f3.length
    ·
     have hd4 : decide ((s : Int) < (y.f3.length : Int)) = false := decide_eq_false (by omega)
     have hd4n : decide (s < y.f3.length) = false := decide_eq_false (by omega)
     have HSl := Aside0.mk hsl
     clear hsl
     gi_wp2
     all_goals (refine ⟨⟨i + 1, dn ++ [path ++ [(i : Int)]] ++ d2, by push_cast; rfl, ⟨by omega⟩, ⟨?_⟩, ⟨by simpa using HJs.out⟩, HKs, HXs, HPs⟩, ?_⟩; (have h1 := HD.out; rw [HSl.out, List.drop_length, posSlots, List.append_nil] at h1; have h2 := HE.out; rw [HY.out, posKids] at h2; rw [h1, ← h2]; push_cast; simp); (simp [intOf]; omega))
    ·
     have hd4 : decide ((s : Int) < (y.f3.length : Int)) = true := decide_eq_true (by omega)
     have hd4n : decide (s < y.f3.length) = true := decide_eq_true (by omega)
     have hs2 : s < y.f3.length := by omega
     clear hsl
     obtain ⟨ad5, A5, c5, e5, hx50, hx51, hx52, hx53, hl5, hi5⟩ := at_T36 HR3.out (s : Int) (by omega) (by omega)
     simp only [Int.toNat_natCast] at hx50 hx51 hx52 hx53
     obtain ⟨z, hz⟩ : ∃ z, z = rd_T36 y.f3 (s : Int) := ⟨_, rfl⟩
     rw [← hz] at hx50 hx51 hx52 hx53 hl5 hi5
     have hd5 : y.f3.drop s = z :: y.f3.drop (s + 1) := by rw [List.drop_eq_getElem_cons hs2, hz]; simp [rd_T36, hs2]
     have HZ := Aside0.mk hd5
     have HR5 := Aside0.mk hi5
     have HC5 := Aside0.mk hl5
     clear hz hd5 hi5 hl5
     subst e5
     have hbw := Y.below HJs.out
     replace hx50 := (hbw.cell (World.block_lt_of_cell? w0 _ hx50)).trans hx50
     replace hx51 := (hbw.cell (World.block_lt_of_cell? w0 _ hx51)).trans hx51
     replace hx52 := (hbw.cell (World.block_lt_of_cell? w0 _ hx52)).trans hx52
     replace hx53 := (hbw.cell (World.block_lt_of_cell? w0 _ hx53)).trans hx53
     have HBw := Aside0.mk hbw
     clear hbw
     gi_wp2_with fail
     have HBb := Aside0.mk (below_drew1 (below_alloc (Below.refl wr.heap.size wr) (.cells #[.int .i64 z.f0, .string z.f1, .int .i64 z.f2, .slice A5 z.f3.length c5] 36)))
     have BK := Aside0.mk (blk_drew (blk_new wr (.cells #[.int .i64 z.f0, .string z.f1, .int .i64 z.f2, .slice A5 z.f3.length c5] 36)))
     have hlz := cnt_eq z
     have hly := cntL_mem (l := y.f3) (x := z) (List.mem_of_mem_drop (i := s) (by rw [HZ.out]; simp))
     have hlk := cntL_mem (l := kids) (x := y) (List.mem_of_mem_drop (i := i) (by rw [HY.out]; simp))
     have hcy := cnt_eq y
     have hltz : cntL z.f3 < sz := by omega
     have HLT := Aside0.mk hltz
     have HPL := Aside0.mk (show path.length + 2 + 2 * cntL z.f3 ≤ 1000000 by omega)
     clear hlz hly hlk hcy hltz hx50 hx51 hx52 hx53 hx0 hx1 hx2 hx3 hy0 hy3 qx4
     refine (wpIn_wide).2 ?_
     refine start_ (n := 10) (S := fun w' => w'.cell? ⟨wr.heap.size, 0, none⟩ = some (.int .i64 z.f0) ∧ w'.cell? ⟨wr.heap.size, 1, none⟩ = some (.string z.f1) ∧ w'.cell? ⟨wr.heap.size, 2, none⟩ = some (.int .i64 z.f2) ∧ w'.cell? ⟨wr.heap.size, 3, none⟩ = some (.slice A5 z.f3.length c5)) (ds := []) #[false, false, false, false, false, false, false, false, false, false] (by kernel_rfl) rfl rfl ⟨(blk_cell BK.out 0).trans rfl, (blk_cell BK.out 1).trans rfl, (blk_cell BK.out 2).trans rfl, (blk_cell BK.out 3).trans rfl⟩ (fun hHeld => ?_); refine with_tabW walk10.tab walk10.bits (fun HT_ HW_ => ?_)
     generalize (wr.alloc (.cells #[.int .i64 z.f0, .string z.f1, .int .i64 z.f2, .slice A5 z.f3.length c5] 36)).drew = wb at HBb BK hHeld ⊢
     have HJb := Aside0.mk (Y.step HJs.out HBb.out)
     have HPb := Aside0.mk (Keep.R (Keep.below HBb.out) HPs.out)
     have HCb := Aside0.mk (Kd.R_reads' HPb.out).2.2
     have HB := Aside0.mk (Below.refl wb.heap.size wb)
     obtain ⟨q2, hq2⟩ : ∃ q : List Int, q = [(i : Int), (s : Int)] := ⟨_, rfl⟩
     have HQ := Aside0.mk hq2
     clear hq2
     refine pure_ (i := 1) (N := some 43) (v := ?_) (a' := ?_) #[false, true, false, false, false, false, false, false, false, false] rfl rfl (any_of HT_.out (by kernel_rfl)) (fun _ _ _ h => h) (Or.inl ⟨by rfl, ?_⟩) ?_ ?_
     rotate_left
     ·
      intro w'
      go_simp
      with_reducible rfl
     rotate_left
     ·
      simp only [Act.put, List.setIfInBounds_toArray, List.set_cons_zero, List.set_cons_succ, i64_w, i32_w]
      rfl
     refine pure_ (i := 3) (N := some 45) (v := ?_) (a' := ?_) #[false, true, false, true, false, false, false, false, false, false] rfl rfl (any_of HT_.out (by kernel_rfl)) (fun _ _ _ h => h) (Or.inl ⟨by rfl, ?_⟩) ?_ ?_
     rotate_left
     ·
      intro w'
      go_simp
      with_reducible rfl
     rotate_left
     ·
      simp only [Act.put, List.setIfInBounds_toArray, List.set_cons_zero, List.set_cons_succ, i64_w, i32_w]
      rfl
     refine pure_ (i := 4) (N := some 46) (v := ?_) (a' := ?_) #[false, true, false, true, true, false, false, false, false, false] rfl rfl (any_of HT_.out (by kernel_rfl)) (fun _ _ _ h => h) (Or.inl ⟨by rfl, ?_⟩) ?_ ?_
     rotate_left
     ·
      intro w'
      go_simp
      with_reducible rfl
     rotate_left
     ·
      simp only [Act.put, List.setIfInBounds_toArray, List.set_cons_zero, List.set_cons_succ, i64_w, i32_w]
      rfl
     refine pure_ (i := 7) (N := some 49) (v := ?_) (a' := ?_) #[false, true, false, true, true, false, false, true, false, false] rfl rfl (any_of HT_.out (by kernel_rfl)) (fun _ _ _ h => h) (Or.inl ⟨by rfl, ?_⟩) ?_ ?_
     rotate_left
     ·
      intro w'
      go_simp
      with_reducible rfl
     rotate_left
     ·
      simp only [Act.put, List.setIfInBounds_toArray, List.set_cons_zero, List.set_cons_succ, i64_w, i32_w]
      rfl
     refine take_ (i := 0) (N := some 42) (v := ?_) (a' := ?_) #[true, true, false, true, true, false, false, true, false, false] rfl rfl (take_ofW HT_.out HW_.out (by kernel_rfl)) (fun _ _ _ h => h) (Or.inl ⟨by rfl, ?_⟩) hHeld ?_ ?_
     rotate_left
     ·
      rintro w' ⟨s0, s1, s2, s3⟩
      go_simp
      with_reducible rfl
     rotate_left
     ·
      simp only [Act.put, List.setIfInBounds_toArray, List.set_cons_zero, List.set_cons_succ, i64_w, i32_w]
      rfl
     refine join_ (σ := Value × Value) 3 #[true, true, true, true, true, true, false, true, false, false] (fun s_ => [(44, s_.1), (47, s_.2)]) (fun s_ w' => (w'.cell? ⟨wr.heap.size, 0, none⟩ = some (.int .i64 z.f0) ∧ w'.cell? ⟨wr.heap.size, 1, none⟩ = some (.string z.f1) ∧ w'.cell? ⟨wr.heap.size, 2, none⟩ = some (.int .i64 z.f2) ∧ w'.cell? ⟨wr.heap.size, 3, none⟩ = some (.slice A5 z.f3.length c5)) ∧ (Kd.R (Kd.int .i64) 3 w' wb.heap.size (fun k_ => some k_ ≠ (s_.2 : Value).ownBlock) s_.1 path) ∧ (Kd.R (Kd.int .i64) 3 w' wb.heap.size (fun k_ => some k_ ≠ (s_.1 : Value).ownBlock) s_.2 q2) ∧ (w'.heap[wr.heap.size]? = some (.cells #[.int .i64 z.f0, .string z.f1, .int .i64 z.f2, .slice A5 z.f3.length c5] 36 (0, 0))) ∧ (Below wb.heap.size wb w')) ?_ ?_
     rotate_left
     ·
      intro hCont
      refine two_ (i := 2) (j := 5) (Ni := some 44) (Nj := some 47) #[true, true, true, true, true, false, false, true, false, false] #[true, true, false, true, true, true, false, true, false, false] rfl rfl rfl rfl (two_of HT_.out (by kernel_rfl)) (by decide) (by decide) (fun K hK => ?_) (fun K hK => ?_)
      ·
       skip
       refine goes_ Tryd.func81 (by kernel_rfl) rfl #[.slice A1 path.length c1] (by rfl) rfl rfl (by (try simp only [List.map_toArray, List.map_cons, List.map_nil]); first | done | rfl) ?_
       with_reducible refine (slices_Clone_int_int.calls _ _ path path _ ?side1 ?side2 (by simp [slices_Clone_int_int.f, hlp])).mono ?_
       (case side1 => repeat (first | exact (Kd.C_below HCb.out HB.out) | (with_reducible refine Kd.C_alloc ?_ _) | (with_reducible refine Kd.C_drewN ?_ _) | (with_reducible refine Kd.C_drew ?_)))
       (case side2 => exact HC1.out)
       rintro e w6 ⟨v819, rfl, ho0, hb⟩
       refine ⟨_, rfl, ?_⟩
       have n0_ := Aside0.mk (Kd.R_lower ho0 (below_size (by repeat (first | (with_reducible first | exact HB.out | apply below_alloc | apply pw_below_drewN | apply below_drew1) | exact HB.out))))
       have n1_ := Aside0.mk (blk_below (g := wr.heap.size) (o := .cells #[.int .i64 z.f0, .string z.f1, .int .i64 z.f2, .slice A5 z.f3.length c5] 36 (0, 0)) (by (with_reducible repeat (first | refine blk_drewN ?_ _ | refine blk_drew ?_ | refine blk_alloc ?_ _)); exact BK.out) hb)
       have n2_ := Aside0.mk (below_step (by repeat (first | (with_reducible first | exact HB.out | apply below_alloc | apply pw_below_drewN | apply below_drew1) | exact HB.out)) hb)
       clear BK HB
       have HO820 := n0_
       have BK := n1_
       have HB := n2_
       clear n0_ n1_ n2_
       clear hb ho0
       refine hK.out _ _ ⟨(blk_cell BK.out 0).trans rfl, (blk_cell BK.out 1).trans rfl, (blk_cell BK.out 2).trans rfl, (blk_cell BK.out 3).trans rfl⟩ (fun hHeld => ?_)
       clear hK K
       refine norm_ (a' := ?_) ?_ ?_
       rotate_left
       ·
        show Act.put _ (some 44) _ = _
        simp only [Act.put, List.setIfInBounds_toArray, List.set_cons_zero, List.set_cons_succ, i64_w, i32_w]
        rfl
       refine one_ (i := 5) (N := some 47) #[true, true, true, true, true, true, false, true, false, false] rfl rfl (one_of HT_.out (by kernel_rfl)) (by decide) (fun K hK => ?_)
       refine Kd.R_lit_step (Kd.int .i64) _ 3 ?hg (N := 47) ?hd (xs := ([(i : Int), (s : Int)] : List Int)) (inner := [.int .i64 i, .int .i64 s]) (ok := fun _ => True) (okp := fun _ => True) ?hr ?hp (fun _ hk => hk) trivial (Below.refl _ _) (Nat.le_refl _) (by simp) ?_; (case hd => rfl); (case hg => rfl); (case hr => first | (go_simp; done) | (go_simp; rfl)); (case hp => exact (Reps.one (show Kd.M (Kd.int .i64) _ _ _ (i : Int) [.int .i64 i] from rfl) (Reps.one (show Kd.M (Kd.int .i64) _ _ _ (s : Int) [.int .i64 s] from rfl) (Reps.none _ _))))
       intro v822 w7 ho8 hb hg_ hnew_
       clear hg_ hnew_
       rw [← HQ.out] at ho8
       have m0_ := Aside0.mk (Kd.R_elder' (by (with_reducible repeat (first | apply Kd.R_alloc | apply Kd.R_drewN | apply Kd.R_drew)); exact HO820.out) (Kd.R_base ho8) hb)
       have n0_ := Aside0.mk (Kd.R_lower (Kd.R_new' ho8 (Kd.R_lt (by (with_reducible repeat (first | apply Kd.R_alloc | apply Kd.R_drewN | apply Kd.R_drew)); exact HO820.out))) (below_size (by repeat (first | (with_reducible first | exact HB.out | apply below_alloc | apply pw_below_drewN | apply below_drew1) | exact HB.out))))
       have n1_ := Aside0.mk (blk_below (g := wr.heap.size) (o := .cells #[.int .i64 z.f0, .string z.f1, .int .i64 z.f2, .slice A5 z.f3.length c5] 36 (0, 0)) (by (with_reducible repeat (first | refine blk_drewN ?_ _ | refine blk_drew ?_ | refine blk_alloc ?_ _)); exact BK.out) hb)
       have n2_ := Aside0.mk (below_step (by repeat (first | (with_reducible first | exact HB.out | apply below_alloc | apply pw_below_drewN | apply below_drew1) | exact HB.out)) hb)
       clear BK HB HO820
       have HO820 := m0_
       clear m0_
       have HO823 := n0_
       have BK := n1_
       have HB := n2_
       clear n0_ n1_ n2_
       clear hb ho8
       refine hK.out _ _ ⟨(blk_cell BK.out 0).trans rfl, (blk_cell BK.out 1).trans rfl, (blk_cell BK.out 2).trans rfl, (blk_cell BK.out 3).trans rfl⟩ (fun hHeld => ?_)
       clear hK K
       refine norm_ (a' := ?_) ?_ ?_
       rotate_left
       ·
        show Act.put _ (some 47) _ = _
        simp only [Act.put, List.setIfInBounds_toArray, List.set_cons_zero, List.set_cons_succ, i64_w, i32_w]
        rfl
       exact norm_ (by simp only [putAll, Act.put, List.setIfInBounds_toArray, List.set_cons_zero, List.set_cons_succ]) (hCont (v819, v822) _ ⟨hHeld, (by (with_reducible repeat (first | apply Kd.R_alloc | apply Kd.R_drewN | apply Kd.R_drew)); exact Kd.R_mono HO820.out (fun _ hk => hk.2)), (by (with_reducible repeat (first | apply Kd.R_alloc | apply Kd.R_drewN | apply Kd.R_drew)); exact Kd.R_mono HO823.out (fun _ hk => hk.2)), (by (with_reducible repeat (first | refine blk_drewN ?_ _ | refine blk_drew ?_ | refine blk_alloc ?_ _)); exact BK.out), (by repeat (first | (with_reducible first | exact HB.out | apply below_alloc | apply pw_below_drewN | apply below_drew1) | exact HB.out))⟩)
      ·
       skip
       refine Kd.R_lit_step (Kd.int .i64) _ 3 ?hg (N := 47) ?hd (xs := ([(i : Int), (s : Int)] : List Int)) (inner := [.int .i64 i, .int .i64 s]) (ok := fun _ => True) (okp := fun _ => True) ?hr ?hp (fun _ hk => hk) trivial (Below.refl _ _) (Nat.le_refl _) (by simp) ?_; (case hd => rfl); (case hg => rfl); (case hr => first | (go_simp; done) | (go_simp; rfl)); (case hp => exact (Reps.one (show Kd.M (Kd.int .i64) _ _ _ (i : Int) [.int .i64 i] from rfl) (Reps.one (show Kd.M (Kd.int .i64) _ _ _ (s : Int) [.int .i64 s] from rfl) (Reps.none _ _))))
       intro v822 w6 ho8 hb hg_ hnew_
       clear hg_ hnew_
       rw [← HQ.out] at ho8
       have n0_ := Aside0.mk (Kd.R_lower ho8 (below_size (by repeat (first | (with_reducible first | exact HB.out | apply below_alloc | apply pw_below_drewN | apply below_drew1) | exact HB.out))))
       have n1_ := Aside0.mk (blk_below (g := wr.heap.size) (o := .cells #[.int .i64 z.f0, .string z.f1, .int .i64 z.f2, .slice A5 z.f3.length c5] 36 (0, 0)) (by (with_reducible repeat (first | refine blk_drewN ?_ _ | refine blk_drew ?_ | refine blk_alloc ?_ _)); exact BK.out) hb)
       have n2_ := Aside0.mk (below_step (by repeat (first | (with_reducible first | exact HB.out | apply below_alloc | apply pw_below_drewN | apply below_drew1) | exact HB.out)) hb)
       clear BK HB
       have HO823 := n0_
       have BK := n1_
       have HB := n2_
       clear n0_ n1_ n2_
       clear hb ho8
       refine hK.out _ _ ⟨(blk_cell BK.out 0).trans rfl, (blk_cell BK.out 1).trans rfl, (blk_cell BK.out 2).trans rfl, (blk_cell BK.out 3).trans rfl⟩ (fun hHeld => ?_)
       clear hK K
       refine norm_ (a' := ?_) ?_ ?_
       rotate_left
       ·
        show Act.put _ (some 47) _ = _
        simp only [Act.put, List.setIfInBounds_toArray, List.set_cons_zero, List.set_cons_succ, i64_w, i32_w]
        rfl
       refine one_ (i := 2) (N := some 44) #[true, true, true, true, true, true, false, true, false, false] rfl rfl (one_of HT_.out (by kernel_rfl)) (by decide) (fun K hK => ?_)
       refine goes_ Tryd.func81 (by kernel_rfl) rfl #[.slice A1 path.length c1] (by rfl) rfl rfl (by (try simp only [List.map_toArray, List.map_cons, List.map_nil]); first | done | rfl) ?_
       with_reducible refine (slices_Clone_int_int.calls _ _ path path _ ?side1 ?side2 (by simp [slices_Clone_int_int.f, hlp])).mono ?_
       (case side1 => repeat (first | exact (Kd.C_below HCb.out HB.out) | (with_reducible refine Kd.C_alloc ?_ _) | (with_reducible refine Kd.C_drewN ?_ _) | (with_reducible refine Kd.C_drew ?_)))
       (case side2 => exact HC1.out)
       rintro e w7 ⟨v819, rfl, ho0, hb⟩
       refine ⟨_, rfl, ?_⟩
       have m0_ := Aside0.mk (Kd.R_elder' (by (with_reducible repeat (first | apply Kd.R_alloc | apply Kd.R_drewN | apply Kd.R_drew)); exact HO823.out) (Kd.R_base ho0) hb)
       have n0_ := Aside0.mk (Kd.R_lower (Kd.R_new' ho0 (Kd.R_lt (by (with_reducible repeat (first | apply Kd.R_alloc | apply Kd.R_drewN | apply Kd.R_drew)); exact HO823.out))) (below_size (by repeat (first | (with_reducible first | exact HB.out | apply below_alloc | apply pw_below_drewN | apply below_drew1) | exact HB.out))))
       have n1_ := Aside0.mk (blk_below (g := wr.heap.size) (o := .cells #[.int .i64 z.f0, .string z.f1, .int .i64 z.f2, .slice A5 z.f3.length c5] 36 (0, 0)) (by (with_reducible repeat (first | refine blk_drewN ?_ _ | refine blk_drew ?_ | refine blk_alloc ?_ _)); exact BK.out) hb)
       have n2_ := Aside0.mk (below_step (by repeat (first | (with_reducible first | exact HB.out | apply below_alloc | apply pw_below_drewN | apply below_drew1) | exact HB.out)) hb)
       clear BK HB HO823
       have HO823 := m0_
       clear m0_
       have HO820 := n0_
       have BK := n1_
       have HB := n2_
       clear n0_ n1_ n2_
       clear hb ho0
       refine hK.out _ _ ⟨(blk_cell BK.out 0).trans rfl, (blk_cell BK.out 1).trans rfl, (blk_cell BK.out 2).trans rfl, (blk_cell BK.out 3).trans rfl⟩ (fun hHeld => ?_)
       clear hK K
       refine norm_ (a' := ?_) ?_ ?_
       rotate_left
       ·
        show Act.put _ (some 44) _ = _
        simp only [Act.put, List.setIfInBounds_toArray, List.set_cons_zero, List.set_cons_succ, i64_w, i32_w]
        rfl
       exact norm_ (by simp only [putAll, Act.put, List.setIfInBounds_toArray, List.set_cons_zero, List.set_cons_succ]) (hCont (v819, v822) _ ⟨hHeld, (by (with_reducible repeat (first | apply Kd.R_alloc | apply Kd.R_drewN | apply Kd.R_drew)); exact Kd.R_mono HO820.out (fun _ hk => hk.2)), (by (with_reducible repeat (first | apply Kd.R_alloc | apply Kd.R_drewN | apply Kd.R_drew)); exact Kd.R_mono HO823.out (fun _ hk => hk.2)), (by (with_reducible repeat (first | refine blk_drewN ?_ _ | refine blk_drew ?_ | refine blk_alloc ?_ _)); exact BK.out), (by repeat (first | (with_reducible first | exact HB.out | apply below_alloc | apply pw_below_drewN | apply below_drew1) | exact HB.out))⟩)
     rintro ⟨v819, v822⟩ w9 ⟨hHeld, h0_, h1_, h2_, h3_⟩
     clear BK HB
     have HO820 : Aside0 (Kd.R (Kd.int .i64) 3 w9 wb.heap.size (fun k_ => some k_ ≠ (v822 : Value).ownBlock) v819 path) := ⟨h0_⟩
     have HO823 : Aside0 (Kd.R (Kd.int .i64) 3 w9 wb.heap.size (fun k_ => some k_ ≠ (v819 : Value).ownBlock) v822 q2) := ⟨h1_⟩
     have BK : Aside0 (w9.heap[wr.heap.size]? = some (.cells #[.int .i64 z.f0, .string z.f1, .int .i64 z.f2, .slice A5 z.f3.length c5] 36 (0, 0))) := ⟨h2_⟩
     have HB : Aside0 (Below wb.heap.size wb w9) := ⟨h3_⟩
     clear h0_ h1_ h2_ h3_
     obtain ⟨Ao11, co11, eo11⟩ := Kd.R_slice HO823.out
     (first | subst eo11 | (injection eo11 with f1_ f2_ f3_; have f4_ := f1_.symm; have f5_ := f3_.symm; clear f1_ f2_ f3_; subst f4_; subst f5_))
     refine norm_ (a' := ?_) ?_ ?_
     rotate_left
     ·
      simp only [putAll, Act.put, List.setIfInBounds_toArray, List.set_cons_zero, List.set_cons_succ]
      rfl
     refine one_ (i := 6) (N := some 48) #[true, true, true, true, true, true, true, true, false, false] rfl rfl (one_of HT_.out (by kernel_rfl)) (by decide) (fun K hK => ?_)
     refine Kd.R_append_rows_step (Kd.int .i64) (w0 := wb) wb.heap.size (by rfl) (.tmp 44) (.tmp 47) 26 3 (.int .i64 0) 8 rfl Tryd.underlying26 info3 rfl (by decide) (by omega) v819 path q2 _ _ _ (fun k_ => some k_ ≠ (.slice Ao11 q2.length co11 : Value).ownBlock) (fun _ => False) rfl rfl ?aO ?aR (fun _ _ h => h) (fun _ h => h.elim) ?aF ?aB ?aS ?aL ?_
     (case aR => exact (Kd.R_reads' HO823.out).2.2)
     (case aB => exact HB.out)
     (case aF => exact (fun k_ hk => Kd.fresh' (Kd.R_lt HO823.out) k_ hk))
     (case aO => exact HO820.out)
     (case aS => exact below_size HB.out)
     (case aL => have h1 := HPL.out; rw [HQ.out]; simp; omega)
     intro v825 w10 ho hb hg hat
     have n0_ := Aside0.mk (blk_grown (g := wr.heap.size) (o := .cells #[.int .i64 z.f0, .string z.f1, .int .i64 z.f2, .slice A5 z.f3.length c5] 36 (0, 0)) BK.out hg (Kd.R_ne HO820.out BK.out (by decide)))
     clear BK HO823 HO820 HB
     have BK := n0_
     clear n0_ hg hat
     have HB := Aside0.mk hb
     have HB0 := Aside0.mk hb
     have HO826 := Aside0.mk (Kd.R_lower (Kd.R_mono (ok' := fun _ => True) ho (fun _ _ => trivial)) (below_size (below_step (Y.below HJb.out) (Below.refl _ _))))
     clear ho hb
     refine hK.out _ _ ⟨(blk_cell BK.out 0).trans rfl, (blk_cell BK.out 1).trans rfl, (blk_cell BK.out 2).trans rfl, (blk_cell BK.out 3).trans rfl⟩ (fun hHeld => ?_)
     clear hK K
     refine norm_ (a' := ?_) ?_ ?_
     rotate_left
     ·
      show Act.put _ (some 48) _ = _
      simp only [Act.put, List.setIfInBounds_toArray, List.set_cons_zero, List.set_cons_succ, i64_w, i32_w]
      rfl
     refine one_ (i := 8) (N := some 50) #[true, true, true, true, true, true, true, true, true, false] rfl rfl (one_of HT_.out (by kernel_rfl)) (by decide) (fun K hK => ?_)
     refine goes_ Tryd.func103 (by kernel_rfl) rfl #[.agg #[.int .i64 z.f0, .string z.f1, .int .i64 z.f2, .slice A5 z.f3.length c5], v825, .func (.yield l) #[] #[]] (by rfl) rfl rfl (by (try simp only [List.map_toArray, List.map_cons, List.map_nil]); first | done | rfl) ?_
     have hlen2 : (pre ++ dn ++ [path ++ [(i : Int)]] ++ d2).length + (posKids (path ++ q2) 0 z.f3).length ≤ N := by
      have h1 := congrArg List.length HE.out
      have h2 := congrArg List.length HD.out
      have h3 := HN.out
      rw [HY.out, posKids] at h1
      rw [HZ.out, posSlots, posSlot_eq] at h2
      rw [HQ.out]
      simp only [List.length_append, List.length_cons, List.length_nil] at h1 h2 ⊢
      omega
     have hpl2 : (path ++ q2).length + 2 * cntL z.f3 ≤ 1000000 := by
      have h1 := HPL.out
      rw [HQ.out]
      simp only [List.length_append, List.length_cons, List.length_nil] at h1 ⊢
      omega
     refine (ih (cntL z.f3) HLT.out z.f3 (Nat.le_refl _) z.f0 z.f1 z.f2 A5 c5 v825 (path ++ q2) (pre ++ dn ++ [path ++ [(i : Int)]] ++ d2) w10 HR5.out HC5.out HO826.out (Y.step HJb.out HB0.out) hlen2 hpl2).mono ?_
     rintro e w11 ⟨rfl, hj, hkk⟩
     refine ⟨_, rfl, ?_⟩
     have n0_ := Aside0.mk (hkk.2 _ _ _ _ BK.out (.inr rfl))
     have HK11 := Aside0.mk ((Keep.below (A := wr) HBb.out).trans ((Keep.below HB0.out).trans hkk))
     have HJ11 := Aside0.mk hj
     clear BK HB HB0 HO826 hlen2 hpl2 hj hkk
     have BK := n0_
     clear n0_
     refine hK.out _ _ ⟨(blk_cell BK.out 0).trans rfl, (blk_cell BK.out 1).trans rfl, (blk_cell BK.out 2).trans rfl, (blk_cell BK.out 3).trans rfl⟩ (fun hHeld => ?_)
     clear hK K
     refine norm_ (a' := ?_) ?_ ?_
     rotate_left
     ·
      show Act.put _ (some 50) _ = _
      simp only [Act.put, List.setIfInBounds_toArray, List.set_cons_zero, List.set_cons_succ, i64_w, i32_w]
      rfl
     refine pure_ (i := 9) (N := some 51) (v := ?_) (a' := ?_) #[true, true, true, true, true, true, true, true, true, true] rfl rfl (any_of HT_.out (by kernel_rfl)) (fun _ _ _ h => h) (Or.inl ⟨by rfl, ?_⟩) ?_ ?_
     rotate_left
     ·
      intro w'
      go_simp
      with_reducible rfl
     rotate_left
     ·
      simp only [Act.put, List.setIfInBounds_toArray, List.set_cons_zero, List.set_cons_succ, i64_w, i32_w]
      rfl
     refine done_ (done_of HT_.out (by kernel_rfl)) ?_
     have HX11 := Aside0.mk (HK11.out.2 _ _ _ _ HXs.out (.inr rfl))
     have HP11 := Aside0.mk (Keep.R HK11.out HPs.out)
     gi_wp2
     refine ⟨⟨s + 1, d2 ++ posKids (path ++ q2) 0 z.f3, by push_cast; rfl, ⟨by omega⟩, ⟨?_⟩, ⟨by simpa using HJ11.out⟩, ⟨HKs.out.trans HK11.out⟩, HX11, HP11⟩, ?_⟩
     ·
      have h2 := HD.out
      rw [HZ.out, posSlots, posSlot_eq, ← HQ.out] at h2
      rw [← h2]
      push_cast
      simp
     ·
      simp [intOf]
      omega
end poa
end Go.Proofs.YtagkhoeidjlahaaDoor.G
