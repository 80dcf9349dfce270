-- Written by pack2.py: this session's texts and the printer's, pruned.
import Derived.Test.YtagkhoeidjlahaaDoorCSe2
import Derived.Test.YtagkhoeidjlahaaDoorCSe4
import Derived.Test.YtagkhoeidjlahaaDoorCSe8
import Derived.Test.YtagkhoeidjlahaaDoorCSe3
import Derived.Test.YtagkhoeidjlahaaDoorCSe5
import Derived.Test.YtagkhoeidjlahaaDoorCSe6
namespace Go.Proofs.YtagkhoeidjlahaaDoor.G
open Go.RowKit Go.Proofs.YtagkhoeidjlahaaDoorW.PrintWords Go.Proofs.YtagkhoeidjlahaaDoorW.PrintLast Go.Proofs.YtagkhoeidjlahaaDoorW.PrintMore
attribute [local go_sem] max2_int min2_int max_two min_two max_three min_three max_four min_four
set_option linter.unusedVariables false
set_option linter.unusedSimpArgs false
def chkL (f : Int → S36 → Option (Bool × Int)) (row : Bool) : List S36 → Int → Option (Bool × Int)
 | [], l => some (true, l)
 | y :: ys, l => if (y.f0 == 1) == row then some (false, l) else (f l y).bind fun r => if r.1 = true then chkL f row ys r.2 else some (false, r.2)
def chk (k : Nat) : Nat → Int → S36 → Option (Bool × Int)
 | 0, l, _ => some (false, l - 1)
 | d + 1, l, x => if l - 1 < 0 then some (false, l - 1) else (shapeF k x.f0 x.f1 x.f2 x.f3.length).bind fun b => if b = true then chkL (chk k d) (x.f0 == 1) x.f3 (l - 1) else some (false, l - 1)
theorem chkL_le {f : Int → S36 → Option (Bool × Int)} (hf : ∀ l x l', f l x = some (true, l') → 0 ≤ l' ∧ l' ≤ l) (row : Bool) : ∀ (xs : List S36) (l l' : Int), 0 ≤ l → chkL f row xs l = some (true, l') → 0 ≤ l' ∧ l' ≤ l := by
 intro xs
 induction xs with
 | nil =>
  intro l l' h0 h
  simp [chkL] at h
  omega
 | cons y ys ih =>
  intro l l' h0 h
  rw [chkL] at h
  split at h
  ·
   simp at h
  ·
   obtain ⟨r, hr, h⟩ := Option.bind_eq_some_iff.mp h
   rcases r with ⟨rb, rl⟩
   cases rb with
   | false => simp at h
   | true =>
    simp at h
    have h1 := hf _ _ _ hr
    have h2 := ih _ _ h1.1 h
    omega
theorem chk_le (k : Nat) : ∀ (d : Nat) (l : Int) (x : S36) (l' : Int), chk k d l x = some (true, l') → 0 ≤ l' ∧ l' ≤ l := by
 intro d
 induction d with
 | zero => intro l x l' h; simp [chk] at h
 | succ d ih =>
  intro l x l' h
  rw [chk] at h
  split at h
  ·
   simp at h
  ·
   rename_i hl
   obtain ⟨b, hb, h⟩ := Option.bind_eq_some_iff.mp h
   cases b with
   | false => simp at h
   | true =>
    simp at h
    have := chkL_le ih _ _ _ _ (by omega) h
    omega
set_option maxHeartbeats 4000000 in
set_option maxRecDepth 100000 in
theorem check_calls (k : Nat) (w0 : World) (g gf : Nat) (hg0 : w0.heap.size ≤ g) (hgf0 : w0.heap.size ≤ gf) (hne : gf ≠ g) : ∀ (d : Nat), d ≤ 24 → ∀ (x : S36) (A : Option Addr) (c : Nat) (left : Int) (b : Bool) (l' : Int) (w : World),
  Kd.C k36 w0 A x.f3.length x.f3 → x.f3.length ≤ c → 0 ≤ left → left ≤ 1000 → Below w0.heap.size w0 w → w.heap[g]? = some (.cells #[.slice (some ⟨gf, 0, none⟩) 13 13, .int .i64 left] 103 (0, 0)) → w.heap[gf]? = some (.cells formCells 113 (0, 0)) → chk k d left x = some (b, l') →
  Calls Tryd.prog 100 #[.pointer (some ⟨g, 0, none⟩), .agg #[.int .i64 x.f0, .string x.f1, .int .i64 x.f2, .slice A x.f3.length c], .int .i64 d] w fun e w' => e = .returned (.bool b) ∧ Below w0.heap.size w0 w' ∧ w'.heap[g]? = some (.cells #[.slice (some ⟨gf, 0, none⟩) 13 13, .int .i64 l'] 103 (0, 0)) ∧ KeepBut w w' g none := by
 intro d
 induction d with
 | zero =>
  intro hd x A c left b l' w hr hc hl0 hl1 hB hg hf h
  simp only [chk, Option.some.injEq, Prod.mk.injEq] at h
  obtain ⟨rfl, rfl⟩ := h
  have q0 := (blk_cell hg 0).trans rfl
  have q1 := (blk_cell hg 1).trans rfl
  have qf := blk_frozen hg 1
  have hlg := blk_lt hg
  have hu36 := Tryd.underlying36
  have hu103 := Tryd.underlying103
  have HB1 := Aside0.mk (show Below w0.heap.size w0 ((w.setCell ⟨g, 1, none⟩ (.int .i64 (left - 1))).alloc (.cells #[.int .i64 x.f0, .string x.f1, .int .i64 x.f2, .slice A x.f3.length c] 36)) from below_alloc (below_set hB hg0) _)
  have HG1 := Aside0.mk (show ((w.setCell ⟨g, 1, none⟩ (.int .i64 (left - 1))).alloc (.cells #[.int .i64 x.f0, .string x.f1, .int .i64 x.f2, .slice A x.f3.length c] 36)).heap[g]? = some (.cells #[.slice (some ⟨gf, 0, none⟩) 13 13, .int .i64 (left - 1)] 103 (0, 0)) from blk_alloc (blk_put hg 1 _ rfl) _)
  have HK1 := Aside0.mk (show KeepBut w ((w.setCell ⟨g, 1, none⟩ (.int .i64 (left - 1))).alloc (.cells #[.int .i64 x.f0, .string x.f1, .int .i64 x.f2, .slice A x.f3.length c] 36)) g none from keep_alloc ((KeepBut.refl w g none).set_ 1 _) _)
  clear hg hf hr hB
  by_cases hl : left - 1 < 0
  ·
   have hlb : decide (left - 1 < 0) = true := decide_eq_true hl
   go_enter Tryd.func100, Tryd.ntmps100
   go_wp2
   go_ret
   exact ⟨rfl, HB1.out, HG1.out, HK1.out⟩
  ·
   have hlb : decide (left - 1 < 0) = false := decide_eq_false hl
   go_enter Tryd.func100, Tryd.ntmps100
   go_wp2
   go_ret
   exact ⟨rfl, HB1.out, HG1.out, HK1.out⟩
 | succ d ih =>
  intro hd x A c left b l' w hr hc hl0 hl1 hB hg hf h
  have q0 := (blk_cell hg 0).trans rfl
  have q1 := (blk_cell hg 1).trans rfl
  have qf := blk_frozen hg 1
  have hlg := blk_lt hg
  have hu36 := Tryd.underlying36
  have hu103 := Tryd.underlying103
  have HB1 := Aside0.mk (show Below w0.heap.size w0 ((w.setCell ⟨g, 1, none⟩ (.int .i64 (left - 1))).alloc (.cells #[.int .i64 x.f0, .string x.f1, .int .i64 x.f2, .slice A x.f3.length c] 36)) from below_alloc (below_set hB hg0) _)
  have HG1 := Aside0.mk (show ((w.setCell ⟨g, 1, none⟩ (.int .i64 (left - 1))).alloc (.cells #[.int .i64 x.f0, .string x.f1, .int .i64 x.f2, .slice A x.f3.length c] 36)).heap[g]? = some (.cells #[.slice (some ⟨gf, 0, none⟩) 13 13, .int .i64 (left - 1)] 103 (0, 0)) from blk_alloc (blk_put hg 1 _ rfl) _)
  have HK1 := Aside0.mk (show KeepBut w ((w.setCell ⟨g, 1, none⟩ (.int .i64 (left - 1))).alloc (.cells #[.int .i64 x.f0, .string x.f1, .int .i64 x.f2, .slice A x.f3.length c] 36)) g none from keep_alloc ((KeepBut.refl w g none).set_ 1 _) _)
  have HF1 := Aside0.mk (show ((w.setCell ⟨g, 1, none⟩ (.int .i64 (left - 1))).alloc (.cells #[.int .i64 x.f0, .string x.f1, .int .i64 x.f2, .slice A x.f3.length c] 36)).heap[gf]? = some (.cells formCells 113 (0, 0)) from blk_alloc (blk_far hf hne _) _)
  have HX1 := Aside0.mk (show ((w.setCell ⟨g, 1, none⟩ (.int .i64 (left - 1))).alloc (.cells #[.int .i64 x.f0, .string x.f1, .int .i64 x.f2, .slice A x.f3.length c] 36)).heap[w.heap.size]? = some (.cells #[.int .i64 x.f0, .string x.f1, .int .i64 x.f2, .slice A x.f3.length c] 36 (0, 0)) from by have := blk_new (w.setCell ⟨g, 1, none⟩ (.int .i64 (left - 1))) (.cells #[.int .i64 x.f0, .string x.f1, .int .i64 x.f2, .slice A x.f3.length c] 36); simpa using this)
  have HLF := Aside0.mk (blk_lt hf)
  have HLG := Aside0.mk hlg
  have HR := Aside0.mk hr
  have HC := Aside0.mk hc
  have hm := hr.2.1
  have HH := Aside0.mk h
  clear hg hf hr hB h
  by_cases hl : left - 1 < 0
  ·
   have hlb : decide (left - 1 < 0) = true := decide_eq_true hl
   have H := HH.out
   rw [chk, if_pos hl] at H
   simp only [Option.some.injEq, Prod.mk.injEq] at H
   obtain ⟨rfl, rfl⟩ := H
   clear HH
   go_enter Tryd.func100, Tryd.ntmps100
   go_wp2
   go_ret
   exact ⟨rfl, HB1.out, HG1.out, HK1.out⟩
  ·
   have hlb : decide (left - 1 < 0) = false := decide_eq_false hl
   have hdb : (((d : Nat) : Int) + 1 == 0) = false := by simp; omega
   have H := HH.out
   rw [chk, if_neg hl] at H
   obtain ⟨sb, hs, H⟩ := Option.bind_eq_some_iff.mp H
   have HS := Aside0.mk hs
   have H0 := Aside0.mk H
   clear HH H hs
   generalize hw1 : ((w.setCell ⟨g, 1, none⟩ (.int .i64 (left - 1))).alloc (.cells #[.int .i64 x.f0, .string x.f1, .int .i64 x.f2, .slice A x.f3.length c] 36)) = w1 at HB1 HG1 HK1 HF1 HX1
   have HW1 := Aside0.mk hw1
   clear hw1
   cases sb with
   | false =>
    have H := H0.out
    simp at H
    obtain ⟨rfl, rfl⟩ := H
    clear H0
    push_cast
    go_enter Tryd.func100, Tryd.ntmps100
    go_wp2_with fail
    rw [HW1.out]
    refine (shape_calls k x.f0 x.f1 x.f2 A x.f3.length c g gf (left - 1) false w1 hm HG1.out HF1.out HS.out).mono ?_
    rintro e w2 ⟨rfl, hb⟩
    have HB2 := Aside0.mk (below_step HB1.out hb)
    have HG2 := Aside0.mk (blk_below HG1.out hb)
    have HK2 := Aside0.mk (HK1.out.trans (KeepBut.of_below hb g none) (.inl rfl))
    clear hb
    go_wp2
    go_ret
    exact ⟨rfl, HB2.out, HG2.out, HK2.out⟩
   | true =>
    push_cast
    go_enter Tryd.func100, Tryd.ntmps100
    go_wp2_with fail
    rw [HW1.out]
    refine (shape_calls k x.f0 x.f1 x.f2 A x.f3.length c g gf (left - 1) true w1 hm HG1.out HF1.out HS.out).mono ?_
    rintro e w2 ⟨rfl, hb⟩
    have HB2 := Aside0.mk (below_step HB1.out hb)
    have HG2 := Aside0.mk (blk_below HG1.out hb)
    have HF2 := Aside0.mk (blk_below HF1.out hb)
    have HX2 := Aside0.mk (blk_below HX1.out hb)
    have HK2 := Aside0.mk (HK1.out.trans (KeepBut.of_below hb g none) (.inl rfl))
    have qx3 := (blk_cell HX2.out 3).trans rfl
    clear hb
    go_wp2_with fail
    have H1 := Aside0.mk (show chkL (chk k d) (x.f0 == 1) (x.f3.drop 0) (left - 1) = some (b, l') from by have := H0.out; simpa using this)
    clear H0 H
    go_loopg [34] x.f3.length (fun kq v34 wr => ∃ (i : Nat) (lc : Int), v34 = .int .i64 i ∧ Aside0 (kq + i = x.f3.length) ∧ Aside0 (chkL (chk k d) (x.f0 == 1) (x.f3.drop i) lc = some (b, l')) ∧ Aside0 (0 ≤ lc ∧ lc ≤ 1000) ∧ Aside0 (Below w0.heap.size w0 wr) ∧ Aside0 (wr.heap[g]? = some (.cells #[.slice (some ⟨gf, 0, none⟩) 13 13, .int .i64 lc] 103 (0, 0))) ∧ Aside0 (KeepBut w2 wr g none))
    case atStart => exact ⟨0, left - 1, rfl, ⟨rfl⟩, H1, ⟨hl, by omega⟩, HB2, HG2, ⟨KeepBut.refl _ _ _⟩⟩
    case round =>
     obtain ⟨i, lc, rfl, HI, HA, HL, HB3, HG3, HK3⟩ := hrel
     clear H1
     cases gk with
     | zero =>
      have hi : i = x.f3.length := by have := HI.out; omega
      subst hi
      have H := HA.out
      rw [List.drop_length, chkL] at H
      simp only [Option.some.injEq, Prod.mk.injEq] at H
      obtain ⟨rfl, rfl⟩ := H
      go_wp2
      go_ret
      exact ⟨rfl, HB3.out, HG3.out, HK2.out.trans HK3.out (.inl rfl)⟩
     | succ k1 =>
      have hi : i < x.f3.length := by have := HI.out; omega
      have hib : decide ((i : Int) < (x.f3.length : Int)) = true := decide_eq_true (by omega)
      obtain ⟨ad, A3, c3, e, hx0, hx1, hx2, hx3, hl3, hi3⟩ := at_T36 HR.out (i : Int) (by omega) (by omega)
      simp only [Int.toNat_natCast] at hx0 hx1 hx2 hx3
      obtain ⟨y, hy⟩ : ∃ y, y = rd_T36 x.f3 (i : Int) := ⟨_, rfl⟩
      rw [← hy] at hx0 hx1 hx2 hx3 hl3 hi3
      have hd : x.f3.drop i = y :: x.f3.drop (i + 1) := by rw [List.drop_eq_getElem_cons hi, hy]; simp [rd_T36, hi]
      have HY := Aside0.mk hd
      have HR3 := Aside0.mk hi3
      have HC3 := Aside0.mk hl3
      have H := HA.out
      rw [hd, chkL] at H
      have H2 := Aside0.mk H
      clear HA H hy hd hi3 hl3
      subst e
      replace hx0 := (HB3.out.cell (World.block_lt_of_cell? w0 _ hx0)).trans hx0
      replace hx1 := (HB3.out.cell (World.block_lt_of_cell? w0 _ hx1)).trans hx1
      replace hx2 := (HB3.out.cell (World.block_lt_of_cell? w0 _ hx2)).trans hx2
      replace hx3 := (HB3.out.cell (World.block_lt_of_cell? w0 _ hx3)).trans hx3
      have HX3 := Aside0.mk (HK3.out.blk HX2.out (by have := HLG.out; omega) (by simp))
      have HF3 := Aside0.mk (HK3.out.blk HF2.out hne (by simp))
      have qx0 : wr.cell? ⟨w.heap.size, 0, none⟩ = some (.int .i64 x.f0) := (blk_cell HX3.out 0).trans rfl
      have hws : w.heap.size < wr.heap.size := blk_lt HX3.out
      have hgs : g < wr.heap.size := blk_lt HG3.out
      by_cases hrow : ((y.f0 == 1) == (x.f0 == 1)) = true
      ·
       have H := H2.out
       rw [if_pos hrow] at H
       simp only [Option.some.injEq, Prod.mk.injEq] at H
       obtain ⟨rfl, rfl⟩ := H
       clear H2
       go_wp2_with fail
       go_ret
       exact ⟨rfl, below_alloc HB3.out _, blk_alloc HG3.out _, keep_alloc (HK2.out.trans HK3.out (.inl rfl)) _⟩
      ·
       have H := H2.out
       rw [if_neg hrow] at H
       replace hrow : ((y.f0 == 1) == (x.f0 == 1)) = false := by simpa using hrow
       obtain ⟨⟨rb, rl⟩, hr1, H⟩ := Option.bind_eq_some_iff.mp H
       have HR1 := Aside0.mk hr1
       have H3 := Aside0.mk H
       clear H2 H hr1
       have hL0 := HL.out.1
       have hL1 := HL.out.2
       cases rb with
       | false =>
        have H := H3.out
        simp at H
        obtain ⟨rfl, rfl⟩ := H
        clear H3
        go_wp2_with fail
        refine (ih (by omega) y A3 c3 lc false rl _ HR3.out HC3.out hL0 hL1 (below_alloc HB3.out _) (blk_alloc HG3.out _) (blk_alloc HF3.out _) HR1.out).mono ?_
        rintro e w4 ⟨rfl, hb4, hg4, hk4⟩
        have HB4 := Aside0.mk hb4
        have HG4 := Aside0.mk hg4
        have HK4 := Aside0.mk ((keep_alloc (HK2.out.trans HK3.out (.inl rfl)) _).trans hk4 (.inl rfl))
        clear hb4 hg4 hk4
        go_wp2
        go_ret
        exact ⟨rfl, HB4.out, HG4.out, HK4.out⟩
       | true =>
        have H4 := Aside0.mk (show chkL (chk k d) (x.f0 == 1) (x.f3.drop (i + 1)) rl = some (b, l') from by have := H3.out; simpa using this)
        have hle := chk_le k d lc y rl HR1.out
        have HLE := Aside0.mk (show 0 ≤ rl ∧ rl ≤ 1000 from ⟨hle.1, by omega⟩)
        clear H3 hle
        go_wp2_with fail
        refine (ih (by omega) y A3 c3 lc true rl _ HR3.out HC3.out hL0 hL1 (below_alloc HB3.out _) (blk_alloc HG3.out _) (blk_alloc HF3.out _) HR1.out).mono ?_
        rintro e w4 ⟨rfl, hb4, hg4, hk4⟩
        have HB4 := Aside0.mk hb4
        have HG4 := Aside0.mk hg4
        have HK4 := Aside0.mk ((keep_alloc HK3.out _).trans hk4 (.inl rfl))
        clear hb4 hg4 hk4
        go_wp2
        go_roundg k1
        case measure => omega
        case rel => exact ⟨i + 1, rl, by go_num, ⟨by have := HI.out; omega⟩, H4, HLE, HB4, HG4, HK4⟩
section poc
mutual
theorem posKids_len : ∀ (p : List Int) (i : Int) (l : List S36), (posKids p i l).length ≤ 1 + 2 * cntL l
 | p, i, [] => by simp [posKids]
 | p, i, x :: l => by
  have h1 := posItem_len p i x
  have h2 := posKids_len p (i + 1) l
  rw [posKids, cntL]
  simp only [List.length_cons, List.length_append]
  have : 1 ≤ cnt x := by cases x; simp [cnt]
  omega
theorem posItem_len : ∀ (p : List Int) (i : Int) (x : S36), (posItem p i x).length + 2 ≤ 2 * cnt x
 | p, i, ⟨_, _, _, l⟩ => by
  have h1 := posSlots_len p i 0 l
  rw [posItem, cnt]
  omega
theorem posSlots_len : ∀ (p : List Int) (i s : Int) (l : List S36), (posSlots p i s l).length ≤ 2 * cntL l
 | p, i, s, [] => by simp [posSlots]
 | p, i, s, y :: l => by
  have h1 := posSlot_len (p ++ [i, s]) y
  have h2 := posSlots_len p i (s + 1) l
  rw [posSlots, cntL]
  simp only [List.length_append]
  omega
theorem posSlot_len : ∀ (p : List Int) (y : S36), (posSlot p y).length ≤ 2 * cnt y
 | p, ⟨_, _, _, l⟩ => by
  have h1 := posKids_len p 0 l
  rw [posSlot, cnt]
  omega
end
theorem chkL_cnt {f : Int → S36 → Option (Bool × Int)} (hf : ∀ l x l', f l x = some (true, l') → 0 ≤ l' ∧ (cnt x : Int) ≤ l - l') (row : Bool) : ∀ (xs : List S36) (l l' : Int), 0 ≤ l → chkL f row xs l = some (true, l') → 0 ≤ l' ∧ (cntL xs : Int) ≤ l - l' := by
 intro xs
 induction xs with
 | nil =>
  intro l l' h0 h
  simp [chkL] at h
  simp [cntL]
  omega
 | cons y ys ih =>
  intro l l' h0 h
  rw [chkL] at h
  split at h
  ·
   simp at h
  ·
   obtain ⟨⟨b, l1⟩, h1, h2⟩ := Option.bind_eq_some_iff.mp h
   cases b with
   | false => simp at h2
   | true =>
    obtain ⟨h3, h4⟩ := hf _ _ _ h1
    obtain ⟨h5, h6⟩ := ih _ _ h3 (by simpa using h2)
    rw [cntL]
    push_cast
    omega
theorem chk_cnt (k : Nat) : ∀ (d : Nat) (l : Int) (x : S36) (l' : Int), chk k d l x = some (true, l') → 0 ≤ l' ∧ (cnt x : Int) ≤ l - l' := by
 intro d
 induction d with
 | zero => intro l x l' h; simp [chk] at h
 | succ d ih =>
  intro l x l' h
  rw [chk] at h
  split at h
  ·
   simp at h
  ·
   rename_i h0
   obtain ⟨b, h1, h2⟩ := Option.bind_eq_some_iff.mp h
   cases b with
   | false => simp at h2
   | true =>
    have h3 := chkL_cnt (fun l x l' => ih l x l') (x.f0 == 1) x.f3 (l - 1) l' (by omega) (by simpa using h2)
    rw [cnt_eq]
    push_cast
    omega
theorem positions_calls {a0 : Int} {a1 : ByteArray} {a2 : Int} {A : Option Addr} {c n : Nat} (W : World) :
  Calls Tryd.prog 74 #[.agg #[.int .i64 a0, .string a1, .int .i64 a2, .slice A n c]] W fun e W' => e = .returned (.func (.func 102) #[] #[.pointer (some ⟨W.heap.size, 0, none⟩)]) ∧ W' = W.alloc (.cells #[.int .i64 a0, .string a1, .int .i64 a2, .slice A n c] 36) := by
 have hu36 := Tryd.underlying36
 go_enter Tryd.func74, Tryd.ntmps74
 go_wp2
 go_ret
 exact ⟨rfl, rfl⟩
theorem collect_calls {f : Value} {W : World} {R : Value → World → Prop} (h : Calls Tryd.prog 101 #[.slice none 0 0, f] W fun e W' => ∃ v, e = .returned v ∧ R v W') :
  Calls Tryd.prog 73 #[f] W fun e W' => ∃ v, e = .returned v ∧ R v W' := by
 go_enter Tryd.func73, Tryd.ntmps73
 go_wp2_with fail
 refine h.mono ?_
 rintro e w2 ⟨v, rfl, hv⟩
 go_wp2
 go_ret
 exact ⟨_, rfl, hv⟩
end poc
def node_Valid.f (k : Nat) (a0_0 : Int) (a0_1 : ByteArray) (a0_2 : Int) (l0_3 : List (S36)) : Option (Bool) := if a0_0 = 1 then (chk k 24 1000 ⟨a0_0, a0_1, a0_2, l0_3⟩).bind fun r => some r.1 else some false
set_option maxHeartbeats 4000000 in

theorem node_Valid.calls (k : Nat) (a0_0 : Int) (a0_1 : ByteArray) (a0_2 : Int) (A0_3 : Option Addr) (c0_3 : Nat) (l0_3 : List (S36)) (r : Bool) (w : World) (hr0_3 : Kd.C k36 w A0_3 l0_3.length l0_3) (hc0_3 : l0_3.length ≤ c0_3) (h : node_Valid.f k a0_0 a0_1 a0_2 l0_3 = some r) :
  Calls Tryd.prog 72 #[.agg #[.int .i64 a0_0, .string a0_1, .int .i64 a0_2, .slice A0_3 l0_3.length c0_3]] w fun e w' => e = .returned (.bool r) ∧ Below w.heap.size w w' := by
 have hu36 := Tryd.underlying36
 have hu103 := Tryd.underlying103
 unfold node_Valid.f at h
 have HR := Aside0.mk hr0_3
 have HC := Aside0.mk hc0_3
 clear hr0_3 hc0_3
 by_cases h1 : a0_0 = 1
 ·
  rw [if_pos h1] at h
  subst h1
  obtain ⟨⟨b, l'⟩, hc, h⟩ := Option.bind_eq_some_iff.mp h
  cases h
  have HH := Aside0.mk hc
  clear hc
  go_enter Tryd.func72, Tryd.ntmps72
  go_wp2_with (go_at_call 99; refine (forms_calls _).mono ?_; rintro e w' ⟨rfl, rfl⟩)
  refine (check_calls k w (w.heap.size + 1 + 1) (w.heap.size + 1) (by omega) (by omega) (by omega) 24 (by omega) ⟨1, a0_1, a0_2, l0_3⟩ A0_3 c0_3 1000 b l' _ HR.out HC.out (by omega) (by omega) (below_alloc (below_alloc (below_alloc (Below.refl _ _) _) _) _) ?_ ?_ HH.out).mono ?_
  ·
   have := blk_new ((w.alloc (.cells #[.int .i64 1, .string a0_1, .int .i64 a0_2, .slice A0_3 l0_3.length c0_3] 36)).alloc (.cells formCells 113)) (.cells #[.slice (some ⟨w.heap.size + 1, 0, none⟩) 13 13, .int .i64 1000] 103)
   simpa using this
  ·
   refine blk_alloc ?_ _
   have := blk_new (w.alloc (.cells #[.int .i64 1, .string a0_1, .int .i64 a0_2, .slice A0_3 l0_3.length c0_3] 36)) (.cells formCells 113)
   simpa using this
  rintro e w1 ⟨rfl, hb, _, _⟩
  have HB := Aside0.mk hb
  clear hb
  go_wp2
  go_ret
  exact ⟨rfl, HB.out⟩
 ·
  rw [if_neg h1] at h
  cases h
  have h1b : (a0_0 == 1) = false := by simpa using h1
  go_enter Tryd.func72, Tryd.ntmps72
  go_wp2_with (go_at_call 99; refine (forms_calls _).mono ?_; rintro e w' ⟨rfl, rfl⟩)
  go_ret
  exact ⟨rfl, below_alloc (below_alloc (below_alloc (Below.refl _ _) _) _) _⟩
def vinculumref09_In.l0 : Nat → List ByteArray → ByteArray → Int → Option (Bool)
 | 0, _, _, _ => none
 | k + 1, x0, x1, x5 => if x5 < (x0.length : Int) then (if 0 ≤ x5 then (if (rdOf ByteArray.empty x0 x5).toList = x1.toList then (some true) else (vinculumref09_In.l0 k x0 x1 (wrap64 (x5 + 1)))) else (none)) else (some false)
def vinculumref09_In.f (k : Nat) (l0 : List ByteArray) (a1 : ByteArray) : Option (Bool) := vinculumref09_In.l0 k l0 a1 0
set_option maxHeartbeats 8000000 in
set_option maxRecDepth 100000 in
theorem vinculumref09_In.calls (k : Nat) (A0 : Option Addr) (c0 : Nat) (l0 : List ByteArray) (a1 : ByteArray) (r : Bool) (w : World) (hr0 : Kd.C Kd.string w A0 l0.length l0) (hc0 : l0.length ≤ c0) (h : vinculumref09_In.f k l0 a1 = some r) :
  Calls Tryd.prog 127 #[.slice A0 l0.length c0, .string a1] w fun e w' => e = .returned (.bool r) ∧ Drawn0 w w' := by
 have HR0 := Aside0.mk hr0
 have HC0 := Aside0.mk hc0
 clear hr0 hc0
 have H : (vinculumref09_In.l0 k l0 a1 0) = some r := h
 clear h
 have H' := Aside0.mk H
 clear H
 go_enter Tryd.func127, Tryd.ntmps127
 go_wp2
 go_loopg [5] k (fun kq v5 w' => ∃ (x5_1 : Int), v5 = .int .i64 x5_1 ∧ Aside0 (vinculumref09_In.l0 kq l0 a1 x5_1 = some r) ∧ Aside0 (kq ≤ k) ∧ Drawn0 w w')
 case atStart => exact ⟨(0), (by first | rfl | (simp; done) | (simp [*]; done)), H', ⟨Nat.le_refl _⟩, by repeat (first | exact Drawn0.refl _ | apply Drawn0.step)⟩
 case round =>
  clear H'
  try clear c1
  try clear p2
  obtain ⟨x5_1, rfl, HA, HK1, ⟨m1, rfl⟩⟩ := hrel
  cases gk with
  | zero => exact absurd HA.out (by simp [vinculumref09_In.l0])
  | succ k1 =>
   have H := HA.out
   clear HA
   simp only [vinculumref09_In.l0] at H
   by_cases c3 : x5_1 < (l0.length : Int)
   ·
    rw [if_pos c3] at H
    have c3b0 : decide (x5_1 < (l0.length : Int)) = true := decide_eq_true c3
    clear c3
    by_cases c4 : 0 ≤ x5_1
    ·
     rw [if_pos c4] at H
     have c4b0 : decide (0 ≤ x5_1) = true := decide_eq_true c4
     clear c4
     by_cases c5 : (rdOf ByteArray.empty l0 x5_1).toList = a1.toList
     ·
      rw [if_pos c5] at H
      have c5b0 : ((rdOf ByteArray.empty l0 x5_1).toList == a1.toList) = true := beq_iff_eq.mpr c5
      have c5b1 : ((rdOf ByteArray.empty l0 x5_1).toList != a1.toList) = false := bne_eq_false_iff_eq.mpr c5
      clear c5
      obtain rfl := Option.some.inj H
      have p216 : 0 ≤ (x5_1 : Int) := of_decide_eq_true (by first | (with_reducible assumption) | assumption)
      have q216 : x5_1 < (l0.length : Int) := of_decide_eq_true (by first | (with_reducible assumption) | assumption)
      obtain ⟨ad216, e216, hx216_0⟩ := Kd.at_string HR0.out x5_1 p216 q216
      cases e216
      replace p216 := eq_true p216
      replace q216 := eq_true q216
      go_wp2
      go_ret
      exact ⟨by first | rfl | (simp; done) | (simp [*]; done), by repeat (first | exact Drawn0.refl _ | apply Drawn0.step)⟩
     ·
      rw [if_neg c5] at H
      have c5b0 : ((rdOf ByteArray.empty l0 x5_1).toList == a1.toList) = false := beq_eq_false_iff_ne.mpr c5
      have c5b1 : ((rdOf ByteArray.empty l0 x5_1).toList != a1.toList) = true := bne_iff_ne.mpr c5
      have H' := Aside0.mk H
      clear H
      have p216 : 0 ≤ (x5_1 : Int) := of_decide_eq_true (by first | (with_reducible assumption) | assumption)
      have q216 : x5_1 < (l0.length : Int) := of_decide_eq_true (by first | (with_reducible assumption) | assumption)
      obtain ⟨ad216, e216, hx216_0⟩ := Kd.at_string HR0.out x5_1 p216 q216
      cases e216
      replace p216 := eq_true p216
      replace q216 := eq_true q216
      go_wp2
      go_roundg k1
      case measure => have := HK1.out; omega
      case rel => exact ⟨(wrap64 (x5_1 + 1)), (by first | rfl | (simp; done) | (simp [*]; done)), H', ⟨by have := HK1.out; omega⟩, by repeat (first | exact Drawn0.refl _ | apply Drawn0.step)⟩
    ·
     rw [if_neg c4] at H
     exact absurd H (by simp)
   ·
    rw [if_neg c3] at H
    have c3b0 : decide (x5_1 < (l0.length : Int)) = false := decide_eq_false c3
    clear c3
    obtain rfl := Option.some.inj H
    go_wp2
    go_ret
    exact ⟨by first | rfl | (simp; done) | (simp [*]; done), by repeat (first | exact Drawn0.refl _ | apply Drawn0.step)⟩
def vinculumref09_Accents.f  : Option (List ByteArray) := some (([(⟨#[104, 97, 116]⟩ : ByteArray), (⟨#[98, 97, 114]⟩ : ByteArray), (⟨#[118, 101, 99]⟩ : ByteArray), (⟨#[100, 111, 116]⟩ : ByteArray), (⟨#[116, 105, 108, 100, 101]⟩ : ByteArray), (⟨#[99, 104, 101, 99, 107]⟩ : ByteArray)] : List ByteArray))
set_option maxHeartbeats 8000000 in
set_option maxRecDepth 100000 in
theorem vinculumref09_Accents.calls  (r : List ByteArray) (w : World) (h : vinculumref09_Accents.f  = some r) :
  Calls Tryd.prog 128 #[] w fun e w' => ∃ v0_ : Value, e = .returned (v0_) ∧ Kd.R Kd.string 9 w' w.heap.size (fun _ => True) v0_ r ∧ Below w.heap.size w w' := by
 have HB := Aside0.mk (Below.refl w.heap.size w)
 have H : (some (([(⟨#[104, 97, 116]⟩ : ByteArray), (⟨#[98, 97, 114]⟩ : ByteArray), (⟨#[118, 101, 99]⟩ : ByteArray), (⟨#[100, 111, 116]⟩ : ByteArray), (⟨#[116, 105, 108, 100, 101]⟩ : ByteArray), (⟨#[99, 104, 101, 99, 107]⟩ : ByteArray)] : List ByteArray))) = some r := h
 clear h
 obtain ⟨y217, hy217⟩ : ∃ y_ : List ByteArray, y_ = (([(⟨#[104, 97, 116]⟩ : ByteArray), (⟨#[98, 97, 114]⟩ : ByteArray), (⟨#[118, 101, 99]⟩ : ByteArray), (⟨#[100, 111, 116]⟩ : ByteArray), (⟨#[116, 105, 108, 100, 101]⟩ : ByteArray), (⟨#[99, 104, 101, 99, 107]⟩ : ByteArray)] : List ByteArray)) := ⟨_, rfl⟩
 replace H : (some y217) = some r := by first | (rw [hy217]; with_reducible exact H) | (have H2_ := (Option.bind_some _ _).symm.trans H; rw [hy217]; with_reducible exact H2_) | (have H2_ := (Option.bind_some _ _).symm.trans H; with_reducible exact H2_) | with_reducible exact H | (rw [hy217]; exact H) | exact H
 have Ny217 := Aside0.mk hy217
 clear hy217
 obtain rfl := Option.some.inj H
 go_enter Tryd.func128, Tryd.ntmps128
 go_wp2_with (first | ((with_reducible refine gate_dst (N := 1) rfl ?_); refine Kd.R_lit Kd.string _ 9 ?hg (N := 1) ?hd (xs := ([(⟨#[104, 97, 116]⟩ : ByteArray), (⟨#[98, 97, 114]⟩ : ByteArray), (⟨#[118, 101, 99]⟩ : ByteArray), (⟨#[100, 111, 116]⟩ : ByteArray), (⟨#[116, 105, 108, 100, 101]⟩ : ByteArray), (⟨#[99, 104, 101, 99, 107]⟩ : ByteArray)] : List ByteArray)) (inner := [.string (⟨#[104, 97, 116]⟩ : ByteArray), .string (⟨#[98, 97, 114]⟩ : ByteArray), .string (⟨#[118, 101, 99]⟩ : ByteArray), .string (⟨#[100, 111, 116]⟩ : ByteArray), .string (⟨#[116, 105, 108, 100, 101]⟩ : ByteArray), .string (⟨#[99, 104, 101, 99, 107]⟩ : ByteArray)]) (ok := fun _ => True) (okp := fun _ => True) ?hr ?hp (fun _ hk => hk) trivial (Below.refl _ _) (Nat.le_refl _) (by simp) ?_; (case hd => rfl); (case hg => rfl); (case hr => first | (go_simp; done) | (go_simp; rfl)); (case hp => exact (Reps.one (show Kd.M Kd.string _ _ _ (⟨#[104, 97, 116]⟩ : ByteArray) [.string (⟨#[104, 97, 116]⟩ : ByteArray)] from rfl) (Reps.one (show Kd.M Kd.string _ _ _ (⟨#[98, 97, 114]⟩ : ByteArray) [.string (⟨#[98, 97, 114]⟩ : ByteArray)] from rfl) (Reps.one (show Kd.M Kd.string _ _ _ (⟨#[118, 101, 99]⟩ : ByteArray) [.string (⟨#[118, 101, 99]⟩ : ByteArray)] from rfl) (Reps.one (show Kd.M Kd.string _ _ _ (⟨#[100, 111, 116]⟩ : ByteArray) [.string (⟨#[100, 111, 116]⟩ : ByteArray)] from rfl) (Reps.one (show Kd.M Kd.string _ _ _ (⟨#[116, 105, 108, 100, 101]⟩ : ByteArray) [.string (⟨#[116, 105, 108, 100, 101]⟩ : ByteArray)] from rfl) (Reps.one (show Kd.M Kd.string _ _ _ (⟨#[99, 104, 101, 99, 107]⟩ : ByteArray) [.string (⟨#[99, 104, 101, 99, 107]⟩ : ByteArray)] from rfl) (Reps.none _ _)))))))); intro v218 w1 ho2 hb hg_ hnew_; clear hg_ hnew_; (first | rw [← Ny217.out] at ho2 | (simp only [Int.reduceToNat] at ho2; rw [← Ny217.out] at ho2)); have n0_ := Aside0.mk (Kd.R_lower ho2 (below_size (by repeat (first | (with_reducible first | exact HB.out | apply below_alloc | apply pw_below_drewN | apply below_drew1) | exact HB.out)))); have n1_ := Aside0.mk (below_step (by repeat (first | (with_reducible first | exact HB.out | apply below_alloc | apply pw_below_drewN | apply below_drew1) | exact HB.out)) hb); clear HB; have HO219 := n0_; have HB := n1_; clear n0_ n1_; clear hb ho2))
 go_ret
 exact ⟨_, by first | rfl | (simp [errW_none, errW_some] <;> rfl) | (simp [*, errW_none, errW_some] <;> rfl), by (with_reducible repeat (first | apply Kd.R_alloc | apply Kd.R_drewN | apply Kd.R_drew)); exact HO219.out, by repeat (first | (with_reducible first | exact HB.out | apply below_alloc | apply pw_below_drewN | apply below_drew1) | exact HB.out)⟩
end Go.Proofs.YtagkhoeidjlahaaDoor.G
