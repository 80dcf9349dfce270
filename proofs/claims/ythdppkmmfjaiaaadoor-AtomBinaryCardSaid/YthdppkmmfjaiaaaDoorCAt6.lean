-- Written by pack2.py, a program of this session: this session's texts and those that the kit's printer wrote for this claim, pruned to what the claims use.
import Derived.Test.YthdppkmmfjaiaaaDoorCAt2
import Derived.Test.YthdppkmmfjaiaaaDoorCAt3
import Derived.Test.YthdppkmmfjaiaaaDoorCAt5
import Derived.Lib.IndexLaws
import Derived.Lib.Strings
import Derived.Lib.SlTrimSet
namespace Go.Proofs.YthdppkmmfjaiaaaDoor.G
open Go.RowKit Go.Proofs.YthdppkmmfjaiaaaDoorW.PrintWords Go.Proofs.YthdppkmmfjaiaaaDoorW.PrintLast Go.Proofs.YthdppkmmfjaiaaaDoorW.PrintMore
attribute [local go_sem] max2_int min2_int max_two min_two max_three min_three max_four min_four
set_option linter.unusedVariables false
set_option linter.unusedSimpArgs false
def chkL (f : Int → S25 → Option (Bool × Int)) (row : Bool) : List S25 → Int → Option (Bool × Int)
  | [], l => some (true, l)
  | y :: ys, l => if (y.f0 == 1) == row then some (false, l) else (f l y).bind fun r => if r.1 = true then chkL f row ys r.2 else some (false, r.2)
def chk (k : Nat) : Nat → Int → S25 → Option (Bool × Int)
  | 0, l, _ => some (false, l - 1)
  | d + 1, l, x => if l - 1 < 0 then some (false, l - 1) else (shapeF k x.f0 x.f1 x.f2 x.f3.length).bind fun b => if b = true then chkL (chk k d) (x.f0 == 1) x.f3 (l - 1) else some (false, l - 1)
theorem chkL_le {f : Int → S25 → Option (Bool × Int)} (hf : ∀ l x l', f l x = some (true, l') → 0 ≤ l' ∧ l' ≤ l) (row : Bool) : ∀ (xs : List S25) (l l' : Int), 0 ≤ l → chkL f row xs l = some (true, l') → 0 ≤ l' ∧ l' ≤ l := by
  intro xs
  induction xs with
  | nil =>
    intro l l' h0 h
    simp [chkL] at h
    omega
  | cons y ys ih =>
    intro l l' h0 h
    rw [chkL] at h
    split at h
    · simp at h
    · obtain ⟨r, hr, h⟩ := Option.bind_eq_some_iff.mp h
      rcases r with ⟨rb, rl⟩
      cases rb with
      | false => simp at h
      | true =>
        simp at h
        have h1 := hf _ _ _ hr
        have h2 := ih _ _ h1.1 h
        omega
theorem chk_le (k : Nat) : ∀ (d : Nat) (l : Int) (x : S25) (l' : Int), chk k d l x = some (true, l') → 0 ≤ l' ∧ l' ≤ l := by
  intro d
  induction d with
  | zero => intro l x l' h; simp [chk] at h
  | succ d ih =>
    intro l x l' h
    rw [chk] at h
    split at h
    · simp at h
    · rename_i hl
      obtain ⟨b, hb, h⟩ := Option.bind_eq_some_iff.mp h
      cases b with
      | false => simp at h
      | true =>
        simp at h
        have := chkL_le ih _ _ _ _ (by omega) h
        omega
set_option maxHeartbeats 4000000 in
set_option maxRecDepth 100000 in
theorem check_calls (k : Nat) (w0 : World) (g gf : Nat) (hg0 : w0.heap.size ≤ g) (hgf0 : w0.heap.size ≤ gf) (hne : gf ≠ g) : ∀ (d : Nat), d ≤ 24 → ∀ (x : S25) (A : Option Addr) (c : Nat) (left : Int) (b : Bool) (l' : Int) (w : World),
    Kd.C k25 w0 A x.f3.length x.f3 → x.f3.length ≤ c → 0 ≤ left → left ≤ 1000 → Below w0.heap.size w0 w → w.heap[g]? = some (.cells #[.slice (some ⟨gf, 0, none⟩) 13 13, .int .i64 left] 112 (0, 0)) → w.heap[gf]? = some (.cells formCells 116 (0, 0)) → chk k d left x = some (b, l') →
    Calls Tryd.prog 72 #[.pointer (some ⟨g, 0, none⟩), .agg #[.int .i64 x.f0, .string x.f1, .int .i64 x.f2, .slice A x.f3.length c], .int .i64 d] w fun e w' => e = .returned (.bool b) ∧ Below w0.heap.size w0 w' ∧ w'.heap[g]? = some (.cells #[.slice (some ⟨gf, 0, none⟩) 13 13, .int .i64 l'] 112 (0, 0)) ∧ KeepBut w w' g none := by
  intro d
  induction d with
  | zero =>
    intro hd x A c left b l' w hr hc hl0 hl1 hB hg hf h
    simp only [chk, Option.some.injEq, Prod.mk.injEq] at h
    obtain ⟨rfl, rfl⟩ := h
    have q0 := (blk_cell hg 0).trans rfl
    have q1 := (blk_cell hg 1).trans rfl
    have qf := blk_frozen hg 1
    have hlg := blk_lt hg
    have hu36 := Tryd.underlying25
    have hu103 := Tryd.underlying112
    have HB1 := Aside0.mk (show Below w0.heap.size w0 ((w.setCell ⟨g, 1, none⟩ (.int .i64 (left - 1))).alloc (.cells #[.int .i64 x.f0, .string x.f1, .int .i64 x.f2, .slice A x.f3.length c] 25)) from below_alloc (below_set hB hg0) _)
    have HG1 := Aside0.mk (show ((w.setCell ⟨g, 1, none⟩ (.int .i64 (left - 1))).alloc (.cells #[.int .i64 x.f0, .string x.f1, .int .i64 x.f2, .slice A x.f3.length c] 25)).heap[g]? = some (.cells #[.slice (some ⟨gf, 0, none⟩) 13 13, .int .i64 (left - 1)] 112 (0, 0)) from blk_alloc (blk_put hg 1 _ rfl) _)
    have HK1 := Aside0.mk (show KeepBut w ((w.setCell ⟨g, 1, none⟩ (.int .i64 (left - 1))).alloc (.cells #[.int .i64 x.f0, .string x.f1, .int .i64 x.f2, .slice A x.f3.length c] 25)) g none from keep_alloc ((KeepBut.refl w g none).set_ 1 _) _)
    clear hg hf hr hB
    by_cases hl : left - 1 < 0
    · have hlb : decide (left - 1 < 0) = true := decide_eq_true hl
      go_enter Tryd.func72, Tryd.ntmps72
      go_wp2
      go_ret
      exact ⟨rfl, HB1.out, HG1.out, HK1.out⟩
    · have hlb : decide (left - 1 < 0) = false := decide_eq_false hl
      go_enter Tryd.func72, Tryd.ntmps72
      go_wp2
      go_ret
      exact ⟨rfl, HB1.out, HG1.out, HK1.out⟩
  | succ d ih =>
    intro hd x A c left b l' w hr hc hl0 hl1 hB hg hf h
    have q0 := (blk_cell hg 0).trans rfl
    have q1 := (blk_cell hg 1).trans rfl
    have qf := blk_frozen hg 1
    have hlg := blk_lt hg
    have hu36 := Tryd.underlying25
    have hu103 := Tryd.underlying112
    have HB1 := Aside0.mk (show Below w0.heap.size w0 ((w.setCell ⟨g, 1, none⟩ (.int .i64 (left - 1))).alloc (.cells #[.int .i64 x.f0, .string x.f1, .int .i64 x.f2, .slice A x.f3.length c] 25)) from below_alloc (below_set hB hg0) _)
    have HG1 := Aside0.mk (show ((w.setCell ⟨g, 1, none⟩ (.int .i64 (left - 1))).alloc (.cells #[.int .i64 x.f0, .string x.f1, .int .i64 x.f2, .slice A x.f3.length c] 25)).heap[g]? = some (.cells #[.slice (some ⟨gf, 0, none⟩) 13 13, .int .i64 (left - 1)] 112 (0, 0)) from blk_alloc (blk_put hg 1 _ rfl) _)
    have HK1 := Aside0.mk (show KeepBut w ((w.setCell ⟨g, 1, none⟩ (.int .i64 (left - 1))).alloc (.cells #[.int .i64 x.f0, .string x.f1, .int .i64 x.f2, .slice A x.f3.length c] 25)) g none from keep_alloc ((KeepBut.refl w g none).set_ 1 _) _)
    have HF1 := Aside0.mk (show ((w.setCell ⟨g, 1, none⟩ (.int .i64 (left - 1))).alloc (.cells #[.int .i64 x.f0, .string x.f1, .int .i64 x.f2, .slice A x.f3.length c] 25)).heap[gf]? = some (.cells formCells 116 (0, 0)) from blk_alloc (blk_far hf hne _) _)
    have HX1 := Aside0.mk (show ((w.setCell ⟨g, 1, none⟩ (.int .i64 (left - 1))).alloc (.cells #[.int .i64 x.f0, .string x.f1, .int .i64 x.f2, .slice A x.f3.length c] 25)).heap[w.heap.size]? = some (.cells #[.int .i64 x.f0, .string x.f1, .int .i64 x.f2, .slice A x.f3.length c] 25 (0, 0)) from by have := blk_new (w.setCell ⟨g, 1, none⟩ (.int .i64 (left - 1))) (.cells #[.int .i64 x.f0, .string x.f1, .int .i64 x.f2, .slice A x.f3.length c] 25); simpa using this)
    have HLF := Aside0.mk (blk_lt hf)
    have HLG := Aside0.mk hlg
    have HR := Aside0.mk hr
    have HC := Aside0.mk hc
    have hm := hr.2.1
    have HH := Aside0.mk h
    clear hg hf hr hB h
    by_cases hl : left - 1 < 0
    · have hlb : decide (left - 1 < 0) = true := decide_eq_true hl
      have H := HH.out
      rw [chk, if_pos hl] at H
      simp only [Option.some.injEq, Prod.mk.injEq] at H
      obtain ⟨rfl, rfl⟩ := H
      clear HH
      go_enter Tryd.func72, Tryd.ntmps72
      go_wp2
      go_ret
      exact ⟨rfl, HB1.out, HG1.out, HK1.out⟩
    · have hlb : decide (left - 1 < 0) = false := decide_eq_false hl
      have hdb : (((d : Nat) : Int) + 1 == 0) = false := by simp; omega
      have H := HH.out
      rw [chk, if_neg hl] at H
      obtain ⟨sb, hs, H⟩ := Option.bind_eq_some_iff.mp H
      have HS := Aside0.mk hs
      have H0 := Aside0.mk H
      clear HH H hs
      generalize hw1 : ((w.setCell ⟨g, 1, none⟩ (.int .i64 (left - 1))).alloc (.cells #[.int .i64 x.f0, .string x.f1, .int .i64 x.f2, .slice A x.f3.length c] 25)) = w1 at HB1 HG1 HK1 HF1 HX1
      have HW1 := Aside0.mk hw1
      clear hw1
      cases sb with
      | false =>
        have H := H0.out
        simp at H
        obtain ⟨rfl, rfl⟩ := H
        clear H0
        push_cast
        go_enter Tryd.func72, Tryd.ntmps72
        go_wp2_with fail
        rw [HW1.out]
        refine (shape_calls k x.f0 x.f1 x.f2 A x.f3.length c g gf (left - 1) false w1 hm HG1.out HF1.out HS.out).mono ?_
        rintro e w2 ⟨rfl, hb⟩
        have HB2 := Aside0.mk (below_step HB1.out hb)
        have HG2 := Aside0.mk (blk_below HG1.out hb)
        have HK2 := Aside0.mk (HK1.out.trans (KeepBut.of_below hb g none) (.inl rfl))
        clear hb
        go_wp2
        go_ret
        exact ⟨rfl, HB2.out, HG2.out, HK2.out⟩
      | true =>
        push_cast
        go_enter Tryd.func72, Tryd.ntmps72
        go_wp2_with fail
        rw [HW1.out]
        refine (shape_calls k x.f0 x.f1 x.f2 A x.f3.length c g gf (left - 1) true w1 hm HG1.out HF1.out HS.out).mono ?_
        rintro e w2 ⟨rfl, hb⟩
        have HB2 := Aside0.mk (below_step HB1.out hb)
        have HG2 := Aside0.mk (blk_below HG1.out hb)
        have HF2 := Aside0.mk (blk_below HF1.out hb)
        have HX2 := Aside0.mk (blk_below HX1.out hb)
        have HK2 := Aside0.mk (HK1.out.trans (KeepBut.of_below hb g none) (.inl rfl))
        have qx3 := (blk_cell HX2.out 3).trans rfl
        clear hb
        go_wp2_with fail
        have H1 := Aside0.mk (show chkL (chk k d) (x.f0 == 1) (x.f3.drop 0) (left - 1) = some (b, l') from by have := H0.out; simpa using this)
        clear H0 H
        go_loopg [34] x.f3.length (fun kq v34 wr => ∃ (i : Nat) (lc : Int), v34 = .int .i64 i ∧ Aside0 (kq + i = x.f3.length) ∧ Aside0 (chkL (chk k d) (x.f0 == 1) (x.f3.drop i) lc = some (b, l')) ∧ Aside0 (0 ≤ lc ∧ lc ≤ 1000) ∧ Aside0 (Below w0.heap.size w0 wr) ∧ Aside0 (wr.heap[g]? = some (.cells #[.slice (some ⟨gf, 0, none⟩) 13 13, .int .i64 lc] 112 (0, 0))) ∧ Aside0 (KeepBut w2 wr g none))
        case atStart => exact ⟨0, left - 1, rfl, ⟨rfl⟩, H1, ⟨hl, by omega⟩, HB2, HG2, ⟨KeepBut.refl _ _ _⟩⟩
        case round =>
          obtain ⟨i, lc, rfl, HI, HA, HL, HB3, HG3, HK3⟩ := hrel
          clear H1
          cases gk with
          | zero =>
            have hi : i = x.f3.length := by have := HI.out; omega
            subst hi
            have H := HA.out
            rw [List.drop_length, chkL] at H
            simp only [Option.some.injEq, Prod.mk.injEq] at H
            obtain ⟨rfl, rfl⟩ := H
            go_wp2
            go_ret
            exact ⟨rfl, HB3.out, HG3.out, HK2.out.trans HK3.out (.inl rfl)⟩
          | succ k1 =>
            have hi : i < x.f3.length := by have := HI.out; omega
            have hib : decide ((i : Int) < (x.f3.length : Int)) = true := decide_eq_true (by omega)
            obtain ⟨ad, A3, c3, e, hx0, hx1, hx2, hx3, hl3, hi3⟩ := at_T25 HR.out (i : Int) (by omega) (by omega)
            simp only [Int.toNat_natCast] at hx0 hx1 hx2 hx3
            obtain ⟨y, hy⟩ : ∃ y, y = rd_T25 x.f3 (i : Int) := ⟨_, rfl⟩
            rw [← hy] at hx0 hx1 hx2 hx3 hl3 hi3
            have hd : x.f3.drop i = y :: x.f3.drop (i + 1) := by rw [List.drop_eq_getElem_cons hi, hy]; simp [rd_T25, hi]
            have HY := Aside0.mk hd
            have HR3 := Aside0.mk hi3
            have HC3 := Aside0.mk hl3
            have H := HA.out
            rw [hd, chkL] at H
            have H2 := Aside0.mk H
            clear HA H hy hd hi3 hl3
            subst e
            replace hx0 := (HB3.out.cell (World.block_lt_of_cell? w0 _ hx0)).trans hx0
            replace hx1 := (HB3.out.cell (World.block_lt_of_cell? w0 _ hx1)).trans hx1
            replace hx2 := (HB3.out.cell (World.block_lt_of_cell? w0 _ hx2)).trans hx2
            replace hx3 := (HB3.out.cell (World.block_lt_of_cell? w0 _ hx3)).trans hx3
            have HX3 := Aside0.mk (HK3.out.blk HX2.out (by have := HLG.out; omega) (by simp))
            have HF3 := Aside0.mk (HK3.out.blk HF2.out hne (by simp))
            have qx0 : wr.cell? ⟨w.heap.size, 0, none⟩ = some (.int .i64 x.f0) := (blk_cell HX3.out 0).trans rfl
            have hws : w.heap.size < wr.heap.size := blk_lt HX3.out
            have hgs : g < wr.heap.size := blk_lt HG3.out
            by_cases hrow : ((y.f0 == 1) == (x.f0 == 1)) = true
            · have H := H2.out
              rw [if_pos hrow] at H
              simp only [Option.some.injEq, Prod.mk.injEq] at H
              obtain ⟨rfl, rfl⟩ := H
              clear H2
              go_wp2_with fail
              go_ret
              exact ⟨rfl, below_alloc HB3.out _, blk_alloc HG3.out _, keep_alloc (HK2.out.trans HK3.out (.inl rfl)) _⟩
            · have H := H2.out
              rw [if_neg hrow] at H
              replace hrow : ((y.f0 == 1) == (x.f0 == 1)) = false := by simpa using hrow
              obtain ⟨⟨rb, rl⟩, hr1, H⟩ := Option.bind_eq_some_iff.mp H
              have HR1 := Aside0.mk hr1
              have H3 := Aside0.mk H
              clear H2 H hr1
              have hL0 := HL.out.1
              have hL1 := HL.out.2
              cases rb with
              | false =>
                have H := H3.out
                simp at H
                obtain ⟨rfl, rfl⟩ := H
                clear H3
                go_wp2_with fail
                refine (ih (by omega) y A3 c3 lc false rl _ HR3.out HC3.out hL0 hL1 (below_alloc HB3.out _) (blk_alloc HG3.out _) (blk_alloc HF3.out _) HR1.out).mono ?_
                rintro e w4 ⟨rfl, hb4, hg4, hk4⟩
                have HB4 := Aside0.mk hb4
                have HG4 := Aside0.mk hg4
                have HK4 := Aside0.mk ((keep_alloc (HK2.out.trans HK3.out (.inl rfl)) _).trans hk4 (.inl rfl))
                clear hb4 hg4 hk4
                go_wp2
                go_ret
                exact ⟨rfl, HB4.out, HG4.out, HK4.out⟩
              | true =>
                have H4 := Aside0.mk (show chkL (chk k d) (x.f0 == 1) (x.f3.drop (i + 1)) rl = some (b, l') from by have := H3.out; simpa using this)
                have hle := chk_le k d lc y rl HR1.out
                have HLE := Aside0.mk (show 0 ≤ rl ∧ rl ≤ 1000 from ⟨hle.1, by omega⟩)
                clear H3 hle
                go_wp2_with fail
                refine (ih (by omega) y A3 c3 lc true rl _ HR3.out HC3.out hL0 hL1 (below_alloc HB3.out _) (blk_alloc HG3.out _) (blk_alloc HF3.out _) HR1.out).mono ?_
                rintro e w4 ⟨rfl, hb4, hg4, hk4⟩
                have HB4 := Aside0.mk hb4
                have HG4 := Aside0.mk hg4
                have HK4 := Aside0.mk ((keep_alloc HK3.out _).trans hk4 (.inl rfl))
                clear hb4 hg4 hk4
                go_wp2
                go_roundg k1
                case measure => omega
                case rel => exact ⟨i + 1, rl, by go_num, ⟨by have := HI.out; omega⟩, H4, HLE, HB4, HG4, HK4⟩
end Go.Proofs.YthdppkmmfjaiaaaDoor.G
namespace Go.Proofs.YthdppkmmfjaiaaaDoor.G
open Go.RowKit Go.Proofs.YthdppkmmfjaiaaaDoorW.PrintWords Go.Proofs.YthdppkmmfjaiaaaDoorW.PrintLast Go.Proofs.YthdppkmmfjaiaaaDoorW.PrintMore
attribute [local go_sem] max2_int min2_int max_two min_two max_three min_three max_four min_four
set_option linter.unusedVariables false
set_option linter.unusedSimpArgs false
def node_Valid.f (k : Nat) (a0_0 : Int) (a0_1 : ByteArray) (a0_2 : Int) (l0_3 : List (S25)) : Option (Bool) := if a0_0 = 1 then (chk k 24 1000 ⟨a0_0, a0_1, a0_2, l0_3⟩).bind fun r => some r.1 else some false
set_option maxHeartbeats 4000000 in

theorem node_Valid.calls (k : Nat) (a0_0 : Int) (a0_1 : ByteArray) (a0_2 : Int) (A0_3 : Option Addr) (c0_3 : Nat) (l0_3 : List (S25)) (r : Bool) (w : World) (hr0_3 : Kd.C k25 w A0_3 l0_3.length l0_3) (hc0_3 : l0_3.length ≤ c0_3) (h : node_Valid.f k a0_0 a0_1 a0_2 l0_3 = some r) :
    Calls Tryd.prog 57 #[.agg #[.int .i64 a0_0, .string a0_1, .int .i64 a0_2, .slice A0_3 l0_3.length c0_3]] w fun e w' => e = .returned (.bool r) ∧ Below w.heap.size w w' := by
  have hu36 := Tryd.underlying25
  have hu103 := Tryd.underlying112
  unfold node_Valid.f at h
  have HR := Aside0.mk hr0_3
  have HC := Aside0.mk hc0_3
  clear hr0_3 hc0_3
  by_cases h1 : a0_0 = 1
  · rw [if_pos h1] at h
    subst h1
    obtain ⟨⟨b, l'⟩, hc, h⟩ := Option.bind_eq_some_iff.mp h
    cases h
    have HH := Aside0.mk hc
    clear hc
    go_enter Tryd.func57, Tryd.ntmps57
    go_wp2_with (go_at_call 71; refine (forms_calls _).mono ?_; rintro e w' ⟨rfl, rfl⟩)
    refine (check_calls k w (w.heap.size + 1 + 1) (w.heap.size + 1) (by omega) (by omega) (by omega) 24 (by omega) ⟨1, a0_1, a0_2, l0_3⟩ A0_3 c0_3 1000 b l' _ HR.out HC.out (by omega) (by omega) (below_alloc (below_alloc (below_alloc (Below.refl _ _) _) _) _) ?_ ?_ HH.out).mono ?_
    · have := blk_new ((w.alloc (.cells #[.int .i64 1, .string a0_1, .int .i64 a0_2, .slice A0_3 l0_3.length c0_3] 25)).alloc (.cells formCells 116)) (.cells #[.slice (some ⟨w.heap.size + 1, 0, none⟩) 13 13, .int .i64 1000] 112)
      simpa using this
    · refine blk_alloc ?_ _
      have := blk_new (w.alloc (.cells #[.int .i64 1, .string a0_1, .int .i64 a0_2, .slice A0_3 l0_3.length c0_3] 25)) (.cells formCells 116)
      simpa using this
    rintro e w1 ⟨rfl, hb, _, _⟩
    have HB := Aside0.mk hb
    clear hb
    go_wp2
    go_ret
    exact ⟨rfl, HB.out⟩
  · rw [if_neg h1] at h
    cases h
    have h1b : (a0_0 == 1) = false := by simpa using h1
    go_enter Tryd.func57, Tryd.ntmps57
    go_wp2_with (go_at_call 71; refine (forms_calls _).mono ?_; rintro e w' ⟨rfl, rfl⟩)
    go_ret
    exact ⟨rfl, below_alloc (below_alloc (below_alloc (Below.refl _ _) _) _) _⟩
end Go.Proofs.YthdppkmmfjaiaaaDoor.G
namespace Go.Proofs.YthdppkmmfjaiaaaDoor.G.Pure
open Go.Proofs.YthdppkmmfjaiaaaDoorW.PrintWords Go.RowKit
set_option linter.unusedVariables false
set_option linter.unusedSimpArgs false
theorem ev_some {α : Type} {a : Option α} {r : α} (h : a = some r) : Ev (fun _ => a) r := ⟨0, fun _ _ => h⟩
theorem ev_now {α : Type} {a r : α} (h : a = r) : Ev (fun _ => some a) r := ⟨0, fun _ _ => by rw [h]⟩
theorem ev_if {α : Type} {c : Prop} [Decidable c] {g f : Nat → Option α} {r : α} (h : c → Ev g r) (k : ¬ c → Ev f r) : Ev (fun n => if c then g n else f n) r := by
  by_cases hc : c
  · obtain ⟨K, h⟩ := h hc; exact ⟨K, fun n hn => (if_pos hc).trans (h n hn)⟩
  · obtain ⟨K, k⟩ := k hc; exact ⟨K, fun n hn => (if_neg hc).trans (k n hn)⟩
theorem ev_bind {α β : Type} {g : Nat → Option α} {f : Nat → α → Option β} {a : α} {r : β} (h : Ev g a) (k : Ev (fun n => f n a) r) : Ev (fun n => (g n).bind (f n)) r := Ev.bind h k
def M : Nat := 9223372036854775807
theorem wr {n : Int} (h : -9223372036854775808 ≤ n ∧ n ≤ 9223372036854775807) : wrap64 n = n := by unfold wrap64; omega
def L (s : ByteArray) : List UInt8 := s.data.toList
theorem L_length (s : ByteArray) : (L s).length = s.size := rfl
theorem toList_L (s : ByteArray) : s.toList = L s := ByteArray.toList_eq s
theorem bt_L (s : ByteArray) (i : Nat) (h : i < s.size) : bt s i = (((L s)[i]'(by rw [L_length]; exact h)).toNat : Int) := by
  simp [bt, h, L]
  rfl
def letB (c : Int) : Bool := (decide (97 ≤ c) && decide (c ≤ 122)) || (decide (65 ≤ c) && decide (c ≤ 90))
theorem letter_eq (c : Int) : node_letter.f c = some (letB c) := by
  unfold node_letter.f letB
  simp only [ge_iff_le]
  by_cases h1 : 97 ≤ c <;> by_cases h2 : c ≤ 122 <;> by_cases h3 : 65 ≤ c <;> by_cases h4 : c ≤ 90 <;> simp [h1, h2, h3, h4] <;> omega
def hasB (s : ByteArray) (c : Int) : Bool := (L s).any fun b => (b.toNat : Int) == c
def inB (l : List ByteArray) (s : ByteArray) : Bool := l.any fun a => a.toList == s.toList
theorem rdOf_at (l : List ByteArray) (i : Nat) (h : i < l.length) : rdOf ByteArray.empty l i = l[i] := by simp [rdOf, h]
theorem Idx_l (l : List ByteArray) (s : ByteArray) (hl : l.length ≤ M) : ∀ (m i : Nat), l.length - i = m → ∃ j, Ev (fun k => slices_Index_string_string.l0 k l s l.length i) j ∧ decide (j ≥ 0) = ((l.drop i).any fun a => a.toList == s.toList) := by
  intro m
  induction m with
  | zero =>
    intro i hi
    refine ⟨-1, Ev.step (fun k => by rw [slices_Index_string_string.l0]) ?_, ?_⟩
    · refine ev_if (fun h => by omega) fun _ => ev_now rfl
    · rw [List.drop_eq_nil_of_le (by omega)]; rfl
  | succ m ih =>
    intro i hi
    unfold M at hl
    rw [List.drop_eq_getElem_cons (by omega), List.any_cons]
    by_cases h : s.toList = l[i].toList
    · refine ⟨i, Ev.step (fun k => by rw [slices_Index_string_string.l0]) ?_, by simp [h]⟩
      refine ev_if (fun _ => ?_) fun h => by omega
      refine ev_if (fun _ => ?_) fun h => by omega
      refine ev_if (fun _ => ?_) fun h => by omega
      rw [rdOf_at l i (by omega)]
      exact ev_if (fun _ => ev_now rfl) fun h' => absurd h h'
    · obtain ⟨j, hj, hd⟩ := ih (i + 1) (by omega)
      refine ⟨j, Ev.step (fun k => by rw [slices_Index_string_string.l0]) ?_, ?_⟩
      · refine ev_if (fun _ => ?_) fun h => by omega
        refine ev_if (fun _ => ?_) fun h => by omega
        refine ev_if (fun _ => ?_) fun h => by omega
        rw [rdOf_at l i (by omega)]
        refine ev_if (fun h' => absurd h' h) fun _ => ?_
        rw [wr (n := (i : Int) + 1) (by omega)]
        exact_mod_cast hj
      · rw [hd, beq_eq_false_iff_ne.2 (fun e => h e.symm), Bool.false_or]
theorem Contains_ev (l : List ByteArray) (s : ByteArray) (hl : l.length ≤ M) : Ev (fun k => slices_Contains_string_string.f k l s) (inB l s) := by
  obtain ⟨j, hj, hd⟩ := Idx_l l s hl l.length 0 rfl
  unfold slices_Contains_string_string.f slices_Index_string_string.f
  refine ev_bind (by simpa using hj) (ev_now ?_)
  rw [hd]; simp [inB]
def kws : List ByteArray := [⟨#[102, 114, 97, 99]⟩, ⟨#[114, 111, 111, 116]⟩, ⟨#[109, 97, 116, 114, 105, 120]⟩, ⟨#[102, 101, 110, 99, 101]⟩]
def accs : List ByteArray := [⟨#[104, 97, 116]⟩, ⟨#[98, 97, 114]⟩, ⟨#[118, 101, 99]⟩, ⟨#[100, 111, 116]⟩, ⟨#[116, 105, 108, 100, 101]⟩, ⟨#[99, 104, 101, 99, 107]⟩]
def plus : ByteArray := ⟨#[43, 45, 42, 47, 61, 60, 62, 44, 59, 58, 33, 124, 39, 63, 126, 64]⟩
theorem idx_ge : ∀ (l : List UInt8) (c : UInt8), decide (Lib.indexByte l c ≥ 0) = l.any fun b => (b.toNat : Int) == (c.toNat : Int)
  | [], c => by simp [Lib.indexByte]
  | b :: l, c => by
    rw [Lib.indexByte, List.any_cons, ← idx_ge l c]
    by_cases h : b = c
    · subst h; simp
    · have h2 : ((b.toNat : Int) == (c.toNat : Int)) = false := by
        rw [beq_eq_false_iff_ne]
        intro e
        exact h (UInt8.toNat_inj.1 (by omega))
      rw [h2, if_neg (by simpa using h), Bool.false_or]
      have := Lib.indexByte_ge l c
      split
      · rename_i h3
        have : Lib.indexByte l c = -1 := by simpa using h3
        rw [this]
      · rename_i h3
        have : Lib.indexByte l c ≠ -1 := by simpa using h3
        simp only [decide_eq_decide]
        omega
theorem one_byte {s : ByteArray} (h : s.size = 1) : ∃ c, L s = [c] ∧ bt s 0 = (c.toNat : Int) := by
  have hl := L_length s
  rw [h] at hl
  obtain ⟨c, hc⟩ := List.length_eq_one_iff.1 hl
  refine ⟨c, hc, ?_⟩
  have := bt_L s 0 (by omega)
  simp only [Int.ofNat_zero, hc] at this
  exact this
theorem Contains1 (a0 a1 : ByteArray) (h : a1.size = 1) : strings_Contains.f a0 a1 = some (hasB a0 (bt a1 0)) := by
  obtain ⟨c, hc, hb⟩ := one_byte h
  unfold strings_Contains.f strings_Index.f stringslite_Index.f
  rw [show a1.data.toList = [c] from hc, hb]
  simp only [Option.bind_some]
  rw [idx_ge]
  rfl
def allLet (l : List UInt8) : Bool := l.all fun b => letB (b.toNat : Int)
theorem nSym_l (s : ByteArray) (hs : s.size ≤ M) : ∀ (m i : Nat), s.size - i = m → Ev (fun k => node_Symbol.l0 k s s.size i) (allLet ((L s).drop i)) := by
  intro m
  induction m with
  | zero =>
    intro i hi
    refine Ev.step (fun k => by rw [node_Symbol.l0]) ?_
    refine ev_if (fun h => by omega) fun _ => ev_now ?_
    rw [List.drop_eq_nil_of_le (by rw [L_length]; omega)]; rfl
  | succ m ih =>
    intro i hi
    unfold M at hs
    refine Ev.step (fun k => by rw [node_Symbol.l0]) ?_
    refine ev_if (fun _ => ?_) fun h => by omega
    refine ev_if (fun _ => ?_) fun h => by omega
    refine ev_if (fun _ => ?_) fun h => by omega
    rw [allLet, List.drop_eq_getElem_cons (by rw [L_length]; omega), List.all_cons, bt_L s i (by omega), letter_eq]
    refine ev_bind (Ev.now _) ?_
    refine ev_if (fun h => ?_) fun h => ev_now ?_
    · rw [wr (n := (i : Int) + 1) (by omega), h, Bool.true_and]
      have := ih (i + 1) (by omega)
      exact_mod_cast this
    · rw [Bool.not_eq_true] at h; rw [h, Bool.false_and]
def symB (s : ByteArray) : Bool := if s.size = 1 then (letB (bt s 0) || hasB plus (bt s 0)) else allLet (L s) && (decide (2 ≤ s.size) && decide (s.size ≤ 16) && !inB kws s && !inB accs s)
theorem nSym_ev (s : ByteArray) (hs : s.size ≤ M) : Ev (fun k => node_Symbol.f k s) (symB s) := by
  unfold node_Symbol.f symB
  refine ev_if (fun h => ?_) fun h => ?_
  · refine ev_if (fun _ => ?_) fun h => by omega
    rw [letter_eq, if_pos (by omega : s.size = 1)]
    refine ev_bind (Ev.now _) ?_
    refine ev_if (fun h1 => ev_now ?_) fun h1 => ?_
    · rw [h1]; rfl
    · rw [Bool.not_eq_true] at h1
      have := Contains1 plus s (by omega)
      refine ev_bind (ev_some this) (ev_now ?_)
      rw [h1]; rfl
  · rw [if_neg (by omega : ¬ s.size = 1)]
    have j0t : Ev (fun k => node_Symbol.j0 k s true) false := Ev.step (fun k => by rw [node_Symbol.j0]) (ev_if (fun _ => ev_now rfl) fun h => absurd rfl h)
    refine ev_if (fun h1 => ?_) fun h1 => ?_
    · rw [decide_eq_false (show ¬ 2 ≤ s.size by omega)]; simpa using j0t
    · refine ev_if (fun h2 => ?_) fun h2 => ?_
      · rw [decide_eq_false (show ¬ s.size ≤ 16 by omega)]; simpa using j0t
      · rw [decide_eq_true (show 2 ≤ s.size by omega), decide_eq_true (show s.size ≤ 16 by omega)]
        have hacc : Ev (fun k => node_accent.f k s) (inB accs s) := by
          unfold node_accent.f
          exact ev_bind (Contains_ev accs s (by decide)) (Ev.now _)
        refine ev_bind hacc ?_
        refine ev_if (fun h3 => ?_) fun h3 => ?_
        · rw [h3]; simpa using j0t
        · rw [Bool.not_eq_true] at h3
          refine ev_bind (Contains_ev kws s (by decide)) ?_
          rw [h3]
          refine Ev.step (fun k => by rw [node_Symbol.j0]) ?_
          refine ev_if (fun h4 => ev_now ?_) fun h4 => ?_
          · rw [h4]; simp
          · rw [Bool.not_eq_true] at h4
            rw [h4]
            have := nSym_l s hs s.size 0 rfl
            simpa using this
def priB (l : List UInt8) : Bool := l.all fun b => decide (32 ≤ b.toNat) && decide (b.toNat ≤ 126)
theorem nPri_l (s : ByteArray) (hs : s.size ≤ M) : ∀ (m i : Nat), s.size - i = m → Ev (fun k => node_printable.l0 k s s.size i) (priB ((L s).drop i) && decide (s.size ≤ 200)) := by
  intro m
  induction m with
  | zero =>
    intro i hi
    refine Ev.step (fun k => by rw [node_printable.l0]) ?_
    refine ev_if (fun h => by omega) fun _ => ev_now ?_
    rw [List.drop_eq_nil_of_le (by rw [L_length]; omega), show priB [] = true from rfl, Bool.true_and, decide_eq_decide]
    omega
  | succ m ih =>
    intro i hi
    unfold M at hs
    refine Ev.step (fun k => by rw [node_printable.l0]) ?_
    refine ev_if (fun _ => ?_) fun h => by omega
    refine ev_if (fun _ => ?_) fun h => by omega
    refine ev_if (fun _ => ?_) fun h => by omega
    rw [priB, List.drop_eq_getElem_cons (by rw [L_length]; omega), List.all_cons, bt_L s i (by omega)]
    refine ev_if (fun h => ev_now ?_) fun h => ?_
    · rw [decide_eq_false (show ¬ 32 ≤ ((L s)[i]'(by rw [L_length]; omega)).toNat by omega)]; simp
    · refine ev_if (fun h2 => ev_now ?_) fun h2 => ?_
      · rw [decide_eq_false (show ¬ ((L s)[i]'(by rw [L_length]; omega)).toNat ≤ 126 by omega)]; simp
      · rw [decide_eq_true (show 32 ≤ ((L s)[i]'(by rw [L_length]; omega)).toNat by omega), decide_eq_true (show ((L s)[i]'(by rw [L_length]; omega)).toNat ≤ 126 by omega), Bool.true_and, Bool.true_and, wr (n := (i : Int) + 1) (by omega)]
        have := ih (i + 1) (by omega)
        exact_mod_cast this
end Go.Proofs.YthdppkmmfjaiaaaDoor.G.Pure
namespace Go.Proofs.YthdppkmmfjaiaaaDoor.G.Pure
open Go.Proofs.YthdppkmmfjaiaaaDoorW.PrintWords Go.RowKit
set_option linter.unusedVariables false
set_option linter.unusedSimpArgs false
theorem dropWhile_bad {α : Type} {p : α → Bool} : ∀ {l : List α}, l.dropWhile p ≠ [] → ∃ b ∈ l.dropWhile p, p b = false
  | [], h => absurd rfl h
  | a :: l, h => by
    rw [List.dropWhile_cons] at h ⊢
    split at h
    · rename_i hp
      rw [if_pos hp]
      exact dropWhile_bad h
    · rename_i hp
      rw [if_neg hp]
      exact ⟨a, by simp, by simpa using hp⟩
theorem takeWhile_mem {α : Type} {p : α → Bool} {b : α} : ∀ {l : List α}, b ∈ l.takeWhile p → p b = true
  | [], h => by simp at h
  | a :: l, h => by
    rw [List.takeWhile_cons] at h
    split at h
    · rename_i hp
      rcases List.mem_cons.1 h with rfl | h
      · exact hp
      · exact takeWhile_mem h
    · simp at h
theorem dropWhile_all {α : Type} {p : α → Bool} : ∀ {l : List α}, (∀ b ∈ l, p b = true) → l.dropWhile p = []
  | [], _ => rfl
  | a :: l, h => by
    rw [List.dropWhile_cons, if_pos (h a (by simp))]
    exact dropWhile_all fun b hb => h b (by simp [hb])
theorem trimS_nil (l cs : List UInt8) : (Lib.trimS l cs).isEmpty = l.all (cs.contains ·) := by
  unfold Lib.trimS Lib.trimLeftS Lib.trimRightS
  by_cases h : l.all (cs.contains ·) = true
  · rw [h, dropWhile_all (l := l.reverse) (fun b hb => by simpa using List.all_eq_true.1 h b (by simpa using hb))]
    rfl
  · have hne : l.reverse.dropWhile (cs.contains ·) ≠ [] := by
      intro e
      refine h (List.all_eq_true.2 fun b hb => ?_)
      have := List.takeWhile_append_dropWhile (p := (cs.contains ·)) (l := l.reverse)
      rw [e, List.append_nil] at this
      have hb' : b ∈ l.reverse.takeWhile (cs.contains ·) := by rw [this]; simpa using hb
      exact takeWhile_mem hb'
    obtain ⟨b, hb, hp⟩ := dropWhile_bad hne
    have h2 : (l.reverse.dropWhile (cs.contains ·)).reverse.dropWhile (cs.contains ·) ≠ [] := by
      intro e
      have := List.takeWhile_append_dropWhile (p := (cs.contains ·)) (l := (l.reverse.dropWhile (cs.contains ·)).reverse)
      rw [e, List.append_nil] at this
      have hb' : b ∈ (l.reverse.dropWhile (cs.contains ·)).reverse.takeWhile (cs.contains ·) := by rw [this]; simpa using hb
      have := takeWhile_mem hb'
      rw [hp] at this
      cases this
    rw [Bool.not_eq_true] at h
    rw [h]
    cases hd : (l.reverse.dropWhile (cs.contains ·)).reverse.dropWhile (cs.contains ·) with
    | nil => exact absurd hd h2
    | cons a t => rfl
def digI (b : UInt8) : Bool := decide (48 ≤ b.toNat) && decide (b.toNat ≤ 57)
set_option maxRecDepth 100000 in
theorem dig_small : ∀ n < 256, ([48, 49, 50, 51, 52, 53, 54, 55, 56, 57] : List UInt8).contains (UInt8.ofNat n) = (decide (48 ≤ n) && decide (n ≤ 57)) := by decide
theorem dig_contains (b : UInt8) : ([48, 49, 50, 51, 52, 53, 54, 55, 56, 57] : List UInt8).contains b = digI b := by
  have := dig_small b.toNat b.toNat_lt
  rw [UInt8.ofNat_toNat] at this
  exact this
def digs (l : List UInt8) : Bool := !l.isEmpty && l.all digI
theorem digits_eq (a : ByteArray) (ha : a.size ≤ M) : node_digits.f a = some (digs (L a)) := by
  unfold node_digits.f strings_Trim.f digs
  rw [toList_L]
  by_cases h : L a = []
  · rw [if_pos h, h]; rfl
  · rw [if_neg h, if_pos ⟨ha, by decide, by decide⟩]
    simp only [Option.bind_some]
    rw [toList_L]
    have e : L ⟨(Lib.trimS a.data.toList (ByteArray.mk #[48, 49, 50, 51, 52, 53, 54, 55, 56, 57]).data.toList).toArray⟩ = Lib.trimS (L a) [48, 49, 50, 51, 52, 53, 54, 55, 56, 57] := by simp [L]
    rw [e]
    have h1 := trimS_nil (L a) [48, 49, 50, 51, 52, 53, 54, 55, 56, 57]
    have h2 : (L a).isEmpty = false := by simpa using h
    rw [h2]
    have h3 : ∀ t : List UInt8, (t == []) = t.isEmpty := fun t => by cases t <;> rfl
    rw [h3, h1]
    simp only [dig_contains]
    rfl
def numB (l : List UInt8) : Bool := decide (l.length ≤ 20) && (if 0 ≤ Lib.indexByte l 46 then digs (l.take (Lib.indexByte l 46).toNat) && digs (l.drop ((Lib.indexByte l 46).toNat + 1)) else digs l)
theorem idx_lt : ∀ (l : List UInt8) (c : UInt8), Lib.indexByte l c < l.length
  | [], c => by simp [Lib.indexByte]
  | b :: l, c => by
    rw [Lib.indexByte]
    have := idx_lt l c
    simp only [List.length_cons]
    split
    · omega
    · split <;> omega
theorem nNum_eq (a : ByteArray) (ha : a.size ≤ M) : node_Number.f a = some (numB (L a)) := by
  unfold node_Number.f numB
  rw [L_length]
  by_cases h20 : (a.size : Int) > 20
  · rw [if_pos h20, decide_eq_false (show ¬ a.size ≤ 20 by omega)]; rfl
  · rw [if_neg h20, decide_eq_true (show a.size ≤ 20 by omega), Bool.true_and]
    unfold strings_Cut.f stringslite_Cut.f stringslite_Index.f
    rw [show (ByteArray.mk #[46]).data.toList = [46] from rfl]
    simp only [Option.bind_some, show a.data.toList = L a from rfl]
    have hlt := idx_lt (L a) 46
    rw [L_length] at hlt
    have h1 : ((ByteArray.mk #[46]).size : Int) = 1 := rfl
    by_cases hi : Lib.indexByte (L a) 46 ≥ 0
    · rw [if_pos hi, if_pos hi, if_pos (by omega), h1, wr (n := Lib.indexByte (L a) 46 + 1) (by omega), if_pos (by omega), if_pos (by omega), if_pos hi]
      simp only [Option.bind_some]
      have e0 : L (a.extract 0 (Lib.indexByte (L a) 46).toNat) = (L a).take (Lib.indexByte (L a) 46).toNat := by
        simp [L]
      have e1 : L (a.extract (Lib.indexByte (L a) 46 + 1).toNat a.size) = (L a).drop ((Lib.indexByte (L a) 46).toNat + 1) := by
        have := Lib.extract_to_end a (Lib.indexByte (L a) 46 + 1).toNat
        rw [show (Lib.indexByte (L a) 46 + 1).toNat = (Lib.indexByte (L a) 46).toNat + 1 by omega] at this ⊢
        exact this
      have s0 : (a.extract 0 (Lib.indexByte (L a) 46).toNat).size ≤ M := by
        rw [← L_length, e0, List.length_take, L_length]; unfold M at *; omega
      have s1 : (a.extract (Lib.indexByte (L a) 46 + 1).toNat a.size).size ≤ M := by
        rw [← L_length, e1, List.length_drop, L_length]; unfold M at *; omega
      rw [digits_eq _ s0, e0]
      simp only [Option.bind_some]
      cases hd : digs ((L a).take (Lib.indexByte (L a) 46).toNat) with
      | false => simp
      | true =>
        rw [if_pos rfl, if_pos trivial, digits_eq _ s1, e1]
        simp
    · rw [if_neg hi, if_neg hi]
      simp only [Option.bind_some]
      rw [digits_eq a ha]
      simp only [Option.bind_some]
      cases hd : digs (L a) <;> simp
def dlm : ByteArray := ⟨#[40, 41, 91, 93, 123, 125, 124, 60, 62, 47, 46]⟩
def dlm2 : ByteArray := ⟨#[40, 41, 91, 93, 123, 125, 60, 62, 47, 124, 46]⟩
theorem dlm_eq (c : Int) : hasB dlm2 c = hasB dlm c := by
  unfold hasB
  exact List.Perm.any_eq (show (L dlm2).Perm (L dlm) from by decide)
def fenB (s : ByteArray) : Bool := decide (s.size = 2) && hasB dlm (bt s 0) && hasB dlm (bt s 1)
theorem nFen_eq (s : ByteArray) : node_fence.f s = some (fenB s) := by
  unfold node_fence.f fenB
  by_cases h : (s.size : Int) = 2
  · have h2 : s.size = 2 := by omega
    rw [if_pos h, if_pos (by omega), if_pos (by omega), decide_eq_true h2]
    have l0 : L (s.extract 0 1) = (L s).take 1 := by simp [L]
    have l1 : L (s.extract 1 s.size) = (L s).drop 1 := Lib.extract_to_end s 1
    have hL : (L s).length = 2 := by rw [L_length]; exact h2
    have z0 : (s.extract 0 1).size = 1 := by rw [← L_length, l0, List.length_take]; omega
    have z1 : (s.extract 1 s.size).size = 1 := by rw [← L_length, l1, List.length_drop]; omega
    have b0 : bt (s.extract 0 1) 0 = bt s 0 := by
      have e0 := bt_L (s.extract 0 1) 0 (by omega)
      have e1 := bt_L s 0 (by omega)
      simp only [Int.ofNat_zero, l0] at e0
      simp only [Int.ofNat_zero] at e1
      rw [e0, e1]
      simp
    have b1 : bt (s.extract 1 s.size) 0 = bt s 1 := by
      have e0 := bt_L (s.extract 1 s.size) 0 (by omega)
      have e1 := bt_L s 1 (by omega)
      simp only [Int.ofNat_zero, l1] at e0
      rw [e0]
      refine Eq.trans ?_ e1.symm
      simp
    rw [show (⟨#[40, 41, 91, 93, 123, 125, 60, 62, 47, 124, 46]⟩ : ByteArray) = dlm2 from rfl, Contains1 _ _ z0, b0, Contains1 _ _ z1, b1, dlm_eq, dlm_eq]
    simp only [Option.bind_some]
    cases hasB dlm (bt s 0) <;> simp
  · rw [if_neg h, decide_eq_false (show ¬ s.size = 2 by omega)]; simp
end Go.Proofs.YthdppkmmfjaiaaaDoor.G.Pure
