-- Written by pack2.py: this session's texts and the printer's, pruned.
import Derived.Test.YtagkhoeidjlahaaDoorCSe2
import Derived.Test.YtagkhoeidjlahaaDoorCSe4
namespace Go.Proofs.YtagkhoeidjlahaaDoor.G
open Go.RowKit Go.Proofs.YtagkhoeidjlahaaDoorW.PrintWords Go.Proofs.YtagkhoeidjlahaaDoorW.PrintLast Go.Proofs.YtagkhoeidjlahaaDoorW.PrintMore
attribute [local go_sem] max2_int min2_int max_two min_two max_three min_three max_four min_four
set_option linter.unusedVariables false
set_option linter.unusedSimpArgs false
set_option maxHeartbeats 4000000 in
set_option maxRecDepth 100000 in
theorem shapeOut (kd : Int) (s : ByteArray) (cols : Int) (A : Option Addr) (n c g : Nat) (w : World) (hk : kd < 1 ∨ 12 < kd) :
  Calls Tryd.prog 119 #[.pointer (some ⟨g, 0, none⟩), .agg #[.int .i64 kd, .string s, .int .i64 cols, .slice A n c]] w fun e w' => e = .returned (.bool false) ∧ Below w.heap.size w w' := by
 have hu36 := Tryd.underlying36
 rcases hk with h | h
 ·
  have h' : decide (kd < 1) = true := decide_eq_true h
  go_enter Tryd.func119, Tryd.ntmps119
  go_wp2
  go_ret
  exact ⟨rfl, below_alloc (Below.refl _ _) _⟩
 ·
  have h' : decide (kd < 1) = false := decide_eq_false (by omega)
  have h'' : decide (12 < kd) = true := decide_eq_true h
  go_enter Tryd.func119, Tryd.ntmps119
  go_wp2
  go_ret
  exact ⟨rfl, below_alloc (Below.refl _ _) _⟩
set_option maxHeartbeats 4000000 in
set_option maxRecDepth 100000 in
theorem shape1 (s : ByteArray) (cols : Int) (A : Option Addr) (n c g gf : Nat) (left : Int) (w : World) (hn : n ≤ 9223372036854775807)
  (hg : w.heap[g]? = some (.cells #[.slice (some ⟨gf, 0, none⟩) 13 13, .int .i64 left] 103 (0, 0))) (hf : w.heap[gf]? = some (.cells formCells 113 (0, 0))) :
  Calls Tryd.prog 119 #[.pointer (some ⟨g, 0, none⟩), .agg #[.int .i64 1, .string s, .int .i64 cols, .slice A n c]] w fun e w' => e = .returned (.bool (shR s cols n)) ∧ Below w.heap.size w w' := by
 have hc := blk_cell hg 0
 have hfc0 := blk_cell hf 3
 have hfc1 := blk_cell hf 4
 have hfc2 := blk_cell hf 5
 have hlg := blk_lt hg
 have hlf := blk_lt hf
 have hu113 := Tryd.underlying113
 have hu36 := Tryd.underlying36
 have hu103 := Tryd.underlying103
 simp [formCells, str, fnv] at hc hfc0 hfc1 hfc2
 clear hg hf
 by_cases h0 : s.toList.isEmpty = true
 ·
  by_cases h1 : cols = 0
  ·
   subst h1
   by_cases h2 : n ≤ 200
   ·
    have h2b : decide ((n : Int) ≤ 200) = true := decide_eq_true (by omega)
    have HF : Aside0 (shR s 0 n = true) := ⟨by unfold shR; simp [h0]; omega⟩
    go_enter Tryd.func119, Tryd.ntmps119
    go_wp2
    go_region
    go_wp2
    go_ret
    exact ⟨by rw [HF.out]; rfl, below_drew1 (below_alloc (below_alloc (Below.refl _ _) _) _)⟩
   ·
    have h2b : decide ((n : Int) ≤ 200) = false := decide_eq_false (by omega)
    have HF : Aside0 (shR s 0 n = false) := ⟨by unfold shR; simp [h0]; omega⟩
    go_enter Tryd.func119, Tryd.ntmps119
    go_wp2
    go_region
    go_wp2
    go_ret
    exact ⟨by rw [HF.out]; rfl, below_drew1 (below_alloc (below_alloc (Below.refl _ _) _) _)⟩
  ·
   have h1b : (cols == 0) = false := by simpa using h1
   have HF : Aside0 (shR s cols n = false) := ⟨by unfold shR; simp [h1]⟩
   go_enter Tryd.func119, Tryd.ntmps119
   go_wp2
   go_region
   go_wp2
   go_ret
   exact ⟨by rw [HF.out]; rfl, below_drew1 (below_alloc (below_alloc (Below.refl _ _) _) _)⟩
 ·
  replace h0 : s.toList.isEmpty = false := by simpa using h0
  have HF : Aside0 (shR s cols n = false) := ⟨by unfold shR; simp [h0]⟩
  go_enter Tryd.func119, Tryd.ntmps119
  go_wp2
  go_region
  go_wp2
  go_ret
  exact ⟨by rw [HF.out]; rfl, below_drew1 (below_alloc (below_alloc (Below.refl _ _) _) _)⟩
set_option maxHeartbeats 4000000 in
set_option maxRecDepth 100000 in
theorem shape12 (s : ByteArray) (cols : Int) (A : Option Addr) (n c g gf : Nat) (left : Int) (w : World) (hn : n ≤ 9223372036854775807)
  (hg : w.heap[g]? = some (.cells #[.slice (some ⟨gf, 0, none⟩) 13 13, .int .i64 left] 103 (0, 0))) (hf : w.heap[gf]? = some (.cells formCells 113 (0, 0))) :
  Calls Tryd.prog 119 #[.pointer (some ⟨g, 0, none⟩), .agg #[.int .i64 12, .string s, .int .i64 cols, .slice A n c]] w fun e w' => e = .returned (.bool (shM s cols n)) ∧ Below w.heap.size w w' := by
 have hc := blk_cell hg 0
 have hfc0 := blk_cell hf 36
 have hfc1 := blk_cell hf 37
 have hfc2 := blk_cell hf 38
 have hlg := blk_lt hg
 have hlf := blk_lt hf
 have hu113 := Tryd.underlying113
 have hu36 := Tryd.underlying36
 have hu103 := Tryd.underlying103
 simp [formCells, str, fnv] at hc hfc0 hfc1 hfc2
 clear hg hf
 have END : ∀ {W : World}, Below w.heap.size w ((w.alloc (.cells #[.int .i64 12, .string s, .int .i64 cols, .slice A n c] 36)).alloc (.cells #[.string ⟨#[109, 97, 116, 114, 105, 120]⟩, .func (.func 113) #[] #[], .int .i64 (-1)] 113)).drew := fun {_} => below_drew1 (below_alloc (below_alloc (Below.refl _ _) _) _)
 by_cases h0 : s.toList.isEmpty = true
 ·
  by_cases h1 : 1 ≤ cols
  ·
   by_cases h2 : cols ≤ 16
   ·
    by_cases h3 : 1 ≤ n
    ·
     by_cases h4 : n ≤ 256
     ·
      by_cases h5 : (n : Int) % cols = 0
      ·
       have h5b : ((n : Int) % cols == 0) = true := by simpa using h5
       have H5 := Aside0.mk h5
       clear h5
       have HF : Aside0 (shM s cols n = true) := ⟨by unfold shM; simp [h0, h1, h2, h3, h4, h5b]⟩
       go_enter Tryd.func119, Tryd.ntmps119
       go_wp2
       go_region
       go_wp2
       go_ret
       exact ⟨by rw [HF.out]; rfl, END (W := w)⟩
      ·
       have h5b : ((n : Int) % cols == 0) = false := by simpa using h5
       clear h5
       have HF : Aside0 (shM s cols n = false) := ⟨by unfold shM; simp [h5b]⟩
       go_enter Tryd.func119, Tryd.ntmps119
       go_wp2
       go_region
       go_wp2
       go_ret
       exact ⟨by rw [HF.out]; rfl, END (W := w)⟩
     ·
      have HF : Aside0 (shM s cols n = false) := ⟨by unfold shM; rw [decide_eq_false h4]; simp⟩
      go_enter Tryd.func119, Tryd.ntmps119
      go_wp2
      go_region
      go_wp2
      go_ret
      exact ⟨by rw [HF.out]; rfl, END (W := w)⟩
    ·
     have HF : Aside0 (shM s cols n = false) := ⟨by unfold shM; rw [decide_eq_false h3]; simp⟩
     go_enter Tryd.func119, Tryd.ntmps119
     go_wp2
     go_region
     go_wp2
     go_ret
     exact ⟨by rw [HF.out]; rfl, END (W := w)⟩
   ·
    have HF : Aside0 (shM s cols n = false) := ⟨by unfold shM; rw [decide_eq_false h2]; simp⟩
    go_enter Tryd.func119, Tryd.ntmps119
    go_wp2
    go_region
    go_wp2
    go_ret
    exact ⟨by rw [HF.out]; rfl, END (W := w)⟩
  ·
   have HF : Aside0 (shM s cols n = false) := ⟨by unfold shM; rw [decide_eq_false h1]; simp⟩
   go_enter Tryd.func119, Tryd.ntmps119
   go_wp2
   go_region
   go_wp2
   go_ret
   exact ⟨by rw [HF.out]; rfl, END (W := w)⟩
 ·
  replace h0 : s.toList.isEmpty = false := by simpa using h0
  have H0 := Aside0.mk h0
  have HF : Aside0 (shM s cols n = false) := ⟨by unfold shM; simp [h0]⟩
  go_enter Tryd.func119, Tryd.ntmps119
  go_wp2
  go_region
  go_wp2
  go_ret
  exact ⟨by rw [HF.out]; rfl, END (W := w)⟩
set_option maxHeartbeats 4000000 in
set_option maxRecDepth 100000 in
theorem shape2 (s : ByteArray) (cols : Int) (A : Option Addr) (n c g gf : Nat) (left : Int) (b : Bool) (w : World) (hn : n ≤ 9223372036854775807)
  (hg : w.heap[g]? = some (.cells #[.slice (some ⟨gf, 0, none⟩) 13 13, .int .i64 left] 103 (0, 0))) (hf : w.heap[gf]? = some (.cells formCells 113 (0, 0)))
  (ht : ∀ W, Calls Tryd.prog 114 #[.string s] W fun e W' => e = .returned (.bool b) ∧ Below W.heap.size W W') :
  Calls Tryd.prog 119 #[.pointer (some ⟨g, 0, none⟩), .agg #[.int .i64 2, .string s, .int .i64 cols, .slice A n c]] w fun e w' => e = .returned (.bool (shT b cols n 0)) ∧ Below w.heap.size w w' := by
 have hc := blk_cell hg 0
 have hfc0 := blk_cell hf 6
 have hfc1 := blk_cell hf 7
 have hfc2 := blk_cell hf 8
 have hlg := blk_lt hg
 have hlf := blk_lt hf
 have hu113 := Tryd.underlying113
 have hu36 := Tryd.underlying36
 have hu103 := Tryd.underlying103
 simp [formCells, str, fnv] at hc hfc0 hfc1 hfc2
 have HT := Aside0.mk ht
 clear hg hf ht

 have hfin : ∀ w', Below ((w.alloc (.cells #[.int .i64 2, .string s, .int .i64 cols, .slice A n c] 36)).alloc (.cells #[.string ⟨#[115, 121, 109]⟩, .func (.func 114) #[] #[], .int .i64 0] 113)).drew.heap.size ((w.alloc (.cells #[.int .i64 2, .string s, .int .i64 cols, .slice A n c] 36)).alloc (.cells #[.string ⟨#[115, 121, 109]⟩, .func (.func 114) #[] #[], .int .i64 0] 113)).drew w' → Below w.heap.size w w' := fun w' hb => below_step (below_drew1 (below_alloc (below_alloc (Below.refl _ _) _) _)) hb
 have HFIN := Aside0.mk hfin
 clear hfin
 cases b with
 | false =>
  have HF : Aside0 (shT false cols n 0 = false) := ⟨by rfl⟩
  go_enter Tryd.func119, Tryd.ntmps119
  go_wp2
  go_region
  go_wp2_with (go_at_call 114; refine (HT.out _).mono ?_; rintro e w' ⟨rfl, hb⟩; have HB := Aside0.mk (HFIN.out _ hb); clear hb)
  go_ret
  exact ⟨by rw [HF.out]; rfl, HB.out⟩
 | true =>
  by_cases h1 : cols = 0
  ·
   subst h1
   by_cases h2 : n = 0
   ·
    subst h2
    have HF : Aside0 (shT true 0 0 0 = true) := ⟨by rfl⟩
    go_enter Tryd.func119, Tryd.ntmps119
    go_wp2
    go_region
    go_wp2_with (go_at_call 114; refine (HT.out _).mono ?_; rintro e w' ⟨rfl, hb⟩; have b1 := blk_below (blk_drew (blk_alloc (blk_new w _) _)) hb; have b2 := blk_below (blk_drew (blk_new (w.alloc _) _)) hb; have q2 := blk_cell b1 2; have q3 := blk_cell b1 3; have q4 := blk_cell b2 2; have HB := Aside0.mk (HFIN.out _ hb); clear hb b1 b2; simp at q2 q3 q4)
    go_ret
    exact ⟨by rw [HF.out]; rfl, HB.out⟩
   ·
    have h2b : ((n : Int) == 0) = false := by simp; omega
    have HF : Aside0 (shT true 0 n 0 = false) := ⟨by unfold shT; simp [h2]⟩
    go_enter Tryd.func119, Tryd.ntmps119
    go_wp2
    go_region
    go_wp2_with (go_at_call 114; refine (HT.out _).mono ?_; rintro e w' ⟨rfl, hb⟩; have b1 := blk_below (blk_drew (blk_alloc (blk_new w _) _)) hb; have b2 := blk_below (blk_drew (blk_new (w.alloc _) _)) hb; have q2 := blk_cell b1 2; have q3 := blk_cell b1 3; have q4 := blk_cell b2 2; have HB := Aside0.mk (HFIN.out _ hb); clear hb b1 b2; simp at q2 q3 q4)
    go_ret
    exact ⟨by rw [HF.out]; rfl, HB.out⟩
  ·
   have h1b : (cols == 0) = false := by simpa using h1
   have HF : Aside0 (shT true cols n 0 = false) := ⟨by unfold shT; simp [h1]⟩
   go_enter Tryd.func119, Tryd.ntmps119
   go_wp2
   go_region
   go_wp2_with (go_at_call 114; refine (HT.out _).mono ?_; rintro e w' ⟨rfl, hb⟩; have b1 := blk_below (blk_drew (blk_alloc (blk_new w _) _)) hb; have b2 := blk_below (blk_drew (blk_new (w.alloc _) _)) hb; have q2 := blk_cell b1 2; have q3 := blk_cell b1 3; have q4 := blk_cell b2 2; have HB := Aside0.mk (HFIN.out _ hb); clear hb b1 b2; simp at q2 q3 q4)
   go_ret
   exact ⟨by rw [HF.out]; rfl, HB.out⟩
set_option maxHeartbeats 4000000 in
set_option maxRecDepth 100000 in
theorem shape3 (s : ByteArray) (cols : Int) (A : Option Addr) (n c g gf : Nat) (left : Int) (b : Bool) (w : World) (hn : n ≤ 9223372036854775807)
  (hg : w.heap[g]? = some (.cells #[.slice (some ⟨gf, 0, none⟩) 13 13, .int .i64 left] 103 (0, 0))) (hf : w.heap[gf]? = some (.cells formCells 113 (0, 0)))
  (ht : ∀ W, Calls Tryd.prog 115 #[.string s] W fun e W' => e = .returned (.bool b) ∧ Below W.heap.size W W') :
  Calls Tryd.prog 119 #[.pointer (some ⟨g, 0, none⟩), .agg #[.int .i64 3, .string s, .int .i64 cols, .slice A n c]] w fun e w' => e = .returned (.bool (shT b cols n 0)) ∧ Below w.heap.size w w' := by
 have hc := blk_cell hg 0
 have hfc0 := blk_cell hf 9
 have hfc1 := blk_cell hf 10
 have hfc2 := blk_cell hf 11
 have hlg := blk_lt hg
 have hlf := blk_lt hf
 have hu113 := Tryd.underlying113
 have hu36 := Tryd.underlying36
 have hu103 := Tryd.underlying103
 simp [formCells, str, fnv] at hc hfc0 hfc1 hfc2
 have HT := Aside0.mk ht
 clear hg hf ht

 have hfin : ∀ w', Below ((w.alloc (.cells #[.int .i64 3, .string s, .int .i64 cols, .slice A n c] 36)).alloc (.cells #[.string ⟨#[110, 117, 109]⟩, .func (.func 115) #[] #[], .int .i64 0] 113)).drew.heap.size ((w.alloc (.cells #[.int .i64 3, .string s, .int .i64 cols, .slice A n c] 36)).alloc (.cells #[.string ⟨#[110, 117, 109]⟩, .func (.func 115) #[] #[], .int .i64 0] 113)).drew w' → Below w.heap.size w w' := fun w' hb => below_step (below_drew1 (below_alloc (below_alloc (Below.refl _ _) _) _)) hb
 have HFIN := Aside0.mk hfin
 clear hfin
 cases b with
 | false =>
  have HF : Aside0 (shT false cols n 0 = false) := ⟨by rfl⟩
  go_enter Tryd.func119, Tryd.ntmps119
  go_wp2
  go_region
  go_wp2_with (go_at_call 115; refine (HT.out _).mono ?_; rintro e w' ⟨rfl, hb⟩; have HB := Aside0.mk (HFIN.out _ hb); clear hb)
  go_ret
  exact ⟨by rw [HF.out]; rfl, HB.out⟩
 | true =>
  by_cases h1 : cols = 0
  ·
   subst h1
   by_cases h2 : n = 0
   ·
    subst h2
    have HF : Aside0 (shT true 0 0 0 = true) := ⟨by rfl⟩
    go_enter Tryd.func119, Tryd.ntmps119
    go_wp2
    go_region
    go_wp2_with (go_at_call 115; refine (HT.out _).mono ?_; rintro e w' ⟨rfl, hb⟩; have b1 := blk_below (blk_drew (blk_alloc (blk_new w _) _)) hb; have b2 := blk_below (blk_drew (blk_new (w.alloc _) _)) hb; have q2 := blk_cell b1 2; have q3 := blk_cell b1 3; have q4 := blk_cell b2 2; have HB := Aside0.mk (HFIN.out _ hb); clear hb b1 b2; simp at q2 q3 q4)
    go_ret
    exact ⟨by rw [HF.out]; rfl, HB.out⟩
   ·
    have h2b : ((n : Int) == 0) = false := by simp; omega
    have HF : Aside0 (shT true 0 n 0 = false) := ⟨by unfold shT; simp [h2]⟩
    go_enter Tryd.func119, Tryd.ntmps119
    go_wp2
    go_region
    go_wp2_with (go_at_call 115; refine (HT.out _).mono ?_; rintro e w' ⟨rfl, hb⟩; have b1 := blk_below (blk_drew (blk_alloc (blk_new w _) _)) hb; have b2 := blk_below (blk_drew (blk_new (w.alloc _) _)) hb; have q2 := blk_cell b1 2; have q3 := blk_cell b1 3; have q4 := blk_cell b2 2; have HB := Aside0.mk (HFIN.out _ hb); clear hb b1 b2; simp at q2 q3 q4)
    go_ret
    exact ⟨by rw [HF.out]; rfl, HB.out⟩
  ·
   have h1b : (cols == 0) = false := by simpa using h1
   have HF : Aside0 (shT true cols n 0 = false) := ⟨by unfold shT; simp [h1]⟩
   go_enter Tryd.func119, Tryd.ntmps119
   go_wp2
   go_region
   go_wp2_with (go_at_call 115; refine (HT.out _).mono ?_; rintro e w' ⟨rfl, hb⟩; have b1 := blk_below (blk_drew (blk_alloc (blk_new w _) _)) hb; have b2 := blk_below (blk_drew (blk_new (w.alloc _) _)) hb; have q2 := blk_cell b1 2; have q3 := blk_cell b1 3; have q4 := blk_cell b2 2; have HB := Aside0.mk (HFIN.out _ hb); clear hb b1 b2; simp at q2 q3 q4)
   go_ret
   exact ⟨by rw [HF.out]; rfl, HB.out⟩
set_option maxHeartbeats 4000000 in
set_option maxRecDepth 100000 in
theorem shape4 (s : ByteArray) (cols : Int) (A : Option Addr) (n c g gf : Nat) (left : Int) (b : Bool) (w : World) (hn : n ≤ 9223372036854775807)
  (hg : w.heap[g]? = some (.cells #[.slice (some ⟨gf, 0, none⟩) 13 13, .int .i64 left] 103 (0, 0))) (hf : w.heap[gf]? = some (.cells formCells 113 (0, 0)))
  (ht : ∀ W, Calls Tryd.prog 116 #[.string s] W fun e W' => e = .returned (.bool b) ∧ Below W.heap.size W W') :
  Calls Tryd.prog 119 #[.pointer (some ⟨g, 0, none⟩), .agg #[.int .i64 4, .string s, .int .i64 cols, .slice A n c]] w fun e w' => e = .returned (.bool (shT b cols n 0)) ∧ Below w.heap.size w w' := by
 have hc := blk_cell hg 0
 have hfc0 := blk_cell hf 12
 have hfc1 := blk_cell hf 13
 have hfc2 := blk_cell hf 14
 have hlg := blk_lt hg
 have hlf := blk_lt hf
 have hu113 := Tryd.underlying113
 have hu36 := Tryd.underlying36
 have hu103 := Tryd.underlying103
 simp [formCells, str, fnv] at hc hfc0 hfc1 hfc2
 have HT := Aside0.mk ht
 clear hg hf ht

 have hfin : ∀ w', Below ((w.alloc (.cells #[.int .i64 4, .string s, .int .i64 cols, .slice A n c] 36)).alloc (.cells #[.string ⟨#[116, 101, 120, 116]⟩, .func (.func 116) #[] #[], .int .i64 0] 113)).drew.heap.size ((w.alloc (.cells #[.int .i64 4, .string s, .int .i64 cols, .slice A n c] 36)).alloc (.cells #[.string ⟨#[116, 101, 120, 116]⟩, .func (.func 116) #[] #[], .int .i64 0] 113)).drew w' → Below w.heap.size w w' := fun w' hb => below_step (below_drew1 (below_alloc (below_alloc (Below.refl _ _) _) _)) hb
 have HFIN := Aside0.mk hfin
 clear hfin
 cases b with
 | false =>
  have HF : Aside0 (shT false cols n 0 = false) := ⟨by rfl⟩
  go_enter Tryd.func119, Tryd.ntmps119
  go_wp2
  go_region
  go_wp2_with (go_at_call 116; refine (HT.out _).mono ?_; rintro e w' ⟨rfl, hb⟩; have HB := Aside0.mk (HFIN.out _ hb); clear hb)
  go_ret
  exact ⟨by rw [HF.out]; rfl, HB.out⟩
 | true =>
  by_cases h1 : cols = 0
  ·
   subst h1
   by_cases h2 : n = 0
   ·
    subst h2
    have HF : Aside0 (shT true 0 0 0 = true) := ⟨by rfl⟩
    go_enter Tryd.func119, Tryd.ntmps119
    go_wp2
    go_region
    go_wp2_with (go_at_call 116; refine (HT.out _).mono ?_; rintro e w' ⟨rfl, hb⟩; have b1 := blk_below (blk_drew (blk_alloc (blk_new w _) _)) hb; have b2 := blk_below (blk_drew (blk_new (w.alloc _) _)) hb; have q2 := blk_cell b1 2; have q3 := blk_cell b1 3; have q4 := blk_cell b2 2; have HB := Aside0.mk (HFIN.out _ hb); clear hb b1 b2; simp at q2 q3 q4)
    go_ret
    exact ⟨by rw [HF.out]; rfl, HB.out⟩
   ·
    have h2b : ((n : Int) == 0) = false := by simp; omega
    have HF : Aside0 (shT true 0 n 0 = false) := ⟨by unfold shT; simp [h2]⟩
    go_enter Tryd.func119, Tryd.ntmps119
    go_wp2
    go_region
    go_wp2_with (go_at_call 116; refine (HT.out _).mono ?_; rintro e w' ⟨rfl, hb⟩; have b1 := blk_below (blk_drew (blk_alloc (blk_new w _) _)) hb; have b2 := blk_below (blk_drew (blk_new (w.alloc _) _)) hb; have q2 := blk_cell b1 2; have q3 := blk_cell b1 3; have q4 := blk_cell b2 2; have HB := Aside0.mk (HFIN.out _ hb); clear hb b1 b2; simp at q2 q3 q4)
    go_ret
    exact ⟨by rw [HF.out]; rfl, HB.out⟩
  ·
   have h1b : (cols == 0) = false := by simpa using h1
   have HF : Aside0 (shT true cols n 0 = false) := ⟨by unfold shT; simp [h1]⟩
   go_enter Tryd.func119, Tryd.ntmps119
   go_wp2
   go_region
   go_wp2_with (go_at_call 116; refine (HT.out _).mono ?_; rintro e w' ⟨rfl, hb⟩; have b1 := blk_below (blk_drew (blk_alloc (blk_new w _) _)) hb; have b2 := blk_below (blk_drew (blk_new (w.alloc _) _)) hb; have q2 := blk_cell b1 2; have q3 := blk_cell b1 3; have q4 := blk_cell b2 2; have HB := Aside0.mk (HFIN.out _ hb); clear hb b1 b2; simp at q2 q3 q4)
   go_ret
   exact ⟨by rw [HF.out]; rfl, HB.out⟩
set_option maxHeartbeats 4000000 in
set_option maxRecDepth 100000 in
theorem shape5 (s : ByteArray) (cols : Int) (A : Option Addr) (n c g gf : Nat) (left : Int) (b : Bool) (w : World) (hn : n ≤ 9223372036854775807)
  (hg : w.heap[g]? = some (.cells #[.slice (some ⟨gf, 0, none⟩) 13 13, .int .i64 left] 103 (0, 0))) (hf : w.heap[gf]? = some (.cells formCells 113 (0, 0)))
  (ht : ∀ W, Calls Tryd.prog 113 #[.string s] W fun e W' => e = .returned (.bool b) ∧ Below W.heap.size W W') :
  Calls Tryd.prog 119 #[.pointer (some ⟨g, 0, none⟩), .agg #[.int .i64 5, .string s, .int .i64 cols, .slice A n c]] w fun e w' => e = .returned (.bool (shT b cols n 2)) ∧ Below w.heap.size w w' := by
 have hc := blk_cell hg 0
 have hfc0 := blk_cell hf 15
 have hfc1 := blk_cell hf 16
 have hfc2 := blk_cell hf 17
 have hlg := blk_lt hg
 have hlf := blk_lt hf
 have hu113 := Tryd.underlying113
 have hu36 := Tryd.underlying36
 have hu103 := Tryd.underlying103
 simp [formCells, str, fnv] at hc hfc0 hfc1 hfc2
 have HT := Aside0.mk ht
 clear hg hf ht

 have hfin : ∀ w', Below ((w.alloc (.cells #[.int .i64 5, .string s, .int .i64 cols, .slice A n c] 36)).alloc (.cells #[.string ⟨#[102, 114, 97, 99]⟩, .func (.func 113) #[] #[], .int .i64 2] 113)).drew.heap.size ((w.alloc (.cells #[.int .i64 5, .string s, .int .i64 cols, .slice A n c] 36)).alloc (.cells #[.string ⟨#[102, 114, 97, 99]⟩, .func (.func 113) #[] #[], .int .i64 2] 113)).drew w' → Below w.heap.size w w' := fun w' hb => below_step (below_drew1 (below_alloc (below_alloc (Below.refl _ _) _) _)) hb
 have HFIN := Aside0.mk hfin
 clear hfin
 cases b with
 | false =>
  have HF : Aside0 (shT false cols n 2 = false) := ⟨by rfl⟩
  go_enter Tryd.func119, Tryd.ntmps119
  go_wp2
  go_region
  go_wp2_with (go_at_call 113; refine (HT.out _).mono ?_; rintro e w' ⟨rfl, hb⟩; have HB := Aside0.mk (HFIN.out _ hb); clear hb)
  go_ret
  exact ⟨by rw [HF.out]; rfl, HB.out⟩
 | true =>
  by_cases h1 : cols = 0
  ·
   subst h1
   by_cases h2 : n = 2
   ·
    subst h2
    have HF : Aside0 (shT true 0 2 2 = true) := ⟨by rfl⟩
    go_enter Tryd.func119, Tryd.ntmps119
    go_wp2
    go_region
    go_wp2_with (go_at_call 113; refine (HT.out _).mono ?_; rintro e w' ⟨rfl, hb⟩; have b1 := blk_below (blk_drew (blk_alloc (blk_new w _) _)) hb; have b2 := blk_below (blk_drew (blk_new (w.alloc _) _)) hb; have q2 := blk_cell b1 2; have q3 := blk_cell b1 3; have q4 := blk_cell b2 2; have HB := Aside0.mk (HFIN.out _ hb); clear hb b1 b2; simp at q2 q3 q4)
    go_ret
    exact ⟨by rw [HF.out]; rfl, HB.out⟩
   ·
    have h2b : ((n : Int) == 2) = false := by simp; omega
    have HF : Aside0 (shT true 0 n 2 = false) := ⟨by unfold shT; simp [h2]⟩
    go_enter Tryd.func119, Tryd.ntmps119
    go_wp2
    go_region
    go_wp2_with (go_at_call 113; refine (HT.out _).mono ?_; rintro e w' ⟨rfl, hb⟩; have b1 := blk_below (blk_drew (blk_alloc (blk_new w _) _)) hb; have b2 := blk_below (blk_drew (blk_new (w.alloc _) _)) hb; have q2 := blk_cell b1 2; have q3 := blk_cell b1 3; have q4 := blk_cell b2 2; have HB := Aside0.mk (HFIN.out _ hb); clear hb b1 b2; simp at q2 q3 q4)
    go_ret
    exact ⟨by rw [HF.out]; rfl, HB.out⟩
  ·
   have h1b : (cols == 0) = false := by simpa using h1
   have HF : Aside0 (shT true cols n 2 = false) := ⟨by unfold shT; simp [h1]⟩
   go_enter Tryd.func119, Tryd.ntmps119
   go_wp2
   go_region
   go_wp2_with (go_at_call 113; refine (HT.out _).mono ?_; rintro e w' ⟨rfl, hb⟩; have b1 := blk_below (blk_drew (blk_alloc (blk_new w _) _)) hb; have b2 := blk_below (blk_drew (blk_new (w.alloc _) _)) hb; have q2 := blk_cell b1 2; have q3 := blk_cell b1 3; have q4 := blk_cell b2 2; have HB := Aside0.mk (HFIN.out _ hb); clear hb b1 b2; simp at q2 q3 q4)
   go_ret
   exact ⟨by rw [HF.out]; rfl, HB.out⟩
set_option maxHeartbeats 4000000 in
set_option maxRecDepth 100000 in
theorem shape6 (s : ByteArray) (cols : Int) (A : Option Addr) (n c g gf : Nat) (left : Int) (b : Bool) (w : World) (hn : n ≤ 9223372036854775807)
  (hg : w.heap[g]? = some (.cells #[.slice (some ⟨gf, 0, none⟩) 13 13, .int .i64 left] 103 (0, 0))) (hf : w.heap[gf]? = some (.cells formCells 113 (0, 0)))
  (ht : ∀ W, Calls Tryd.prog 113 #[.string s] W fun e W' => e = .returned (.bool b) ∧ Below W.heap.size W W') :
  Calls Tryd.prog 119 #[.pointer (some ⟨g, 0, none⟩), .agg #[.int .i64 6, .string s, .int .i64 cols, .slice A n c]] w fun e w' => e = .returned (.bool (shT b cols n 2)) ∧ Below w.heap.size w w' := by
 have hc := blk_cell hg 0
 have hfc0 := blk_cell hf 18
 have hfc1 := blk_cell hf 19
 have hfc2 := blk_cell hf 20
 have hlg := blk_lt hg
 have hlf := blk_lt hf
 have hu113 := Tryd.underlying113
 have hu36 := Tryd.underlying36
 have hu103 := Tryd.underlying103
 simp [formCells, str, fnv] at hc hfc0 hfc1 hfc2
 have HT := Aside0.mk ht
 clear hg hf ht

 have hfin : ∀ w', Below ((w.alloc (.cells #[.int .i64 6, .string s, .int .i64 cols, .slice A n c] 36)).alloc (.cells #[.string ⟨#[114, 111, 111, 116]⟩, .func (.func 113) #[] #[], .int .i64 2] 113)).drew.heap.size ((w.alloc (.cells #[.int .i64 6, .string s, .int .i64 cols, .slice A n c] 36)).alloc (.cells #[.string ⟨#[114, 111, 111, 116]⟩, .func (.func 113) #[] #[], .int .i64 2] 113)).drew w' → Below w.heap.size w w' := fun w' hb => below_step (below_drew1 (below_alloc (below_alloc (Below.refl _ _) _) _)) hb
 have HFIN := Aside0.mk hfin
 clear hfin
 cases b with
 | false =>
  have HF : Aside0 (shT false cols n 2 = false) := ⟨by rfl⟩
  go_enter Tryd.func119, Tryd.ntmps119
  go_wp2
  go_region
  go_wp2_with (go_at_call 113; refine (HT.out _).mono ?_; rintro e w' ⟨rfl, hb⟩; have HB := Aside0.mk (HFIN.out _ hb); clear hb)
  go_ret
  exact ⟨by rw [HF.out]; rfl, HB.out⟩
 | true =>
  by_cases h1 : cols = 0
  ·
   subst h1
   by_cases h2 : n = 2
   ·
    subst h2
    have HF : Aside0 (shT true 0 2 2 = true) := ⟨by rfl⟩
    go_enter Tryd.func119, Tryd.ntmps119
    go_wp2
    go_region
    go_wp2_with (go_at_call 113; refine (HT.out _).mono ?_; rintro e w' ⟨rfl, hb⟩; have b1 := blk_below (blk_drew (blk_alloc (blk_new w _) _)) hb; have b2 := blk_below (blk_drew (blk_new (w.alloc _) _)) hb; have q2 := blk_cell b1 2; have q3 := blk_cell b1 3; have q4 := blk_cell b2 2; have HB := Aside0.mk (HFIN.out _ hb); clear hb b1 b2; simp at q2 q3 q4)
    go_ret
    exact ⟨by rw [HF.out]; rfl, HB.out⟩
   ·
    have h2b : ((n : Int) == 2) = false := by simp; omega
    have HF : Aside0 (shT true 0 n 2 = false) := ⟨by unfold shT; simp [h2]⟩
    go_enter Tryd.func119, Tryd.ntmps119
    go_wp2
    go_region
    go_wp2_with (go_at_call 113; refine (HT.out _).mono ?_; rintro e w' ⟨rfl, hb⟩; have b1 := blk_below (blk_drew (blk_alloc (blk_new w _) _)) hb; have b2 := blk_below (blk_drew (blk_new (w.alloc _) _)) hb; have q2 := blk_cell b1 2; have q3 := blk_cell b1 3; have q4 := blk_cell b2 2; have HB := Aside0.mk (HFIN.out _ hb); clear hb b1 b2; simp at q2 q3 q4)
    go_ret
    exact ⟨by rw [HF.out]; rfl, HB.out⟩
  ·
   have h1b : (cols == 0) = false := by simpa using h1
   have HF : Aside0 (shT true cols n 2 = false) := ⟨by unfold shT; simp [h1]⟩
   go_enter Tryd.func119, Tryd.ntmps119
   go_wp2
   go_region
   go_wp2_with (go_at_call 113; refine (HT.out _).mono ?_; rintro e w' ⟨rfl, hb⟩; have b1 := blk_below (blk_drew (blk_alloc (blk_new w _) _)) hb; have b2 := blk_below (blk_drew (blk_new (w.alloc _) _)) hb; have q2 := blk_cell b1 2; have q3 := blk_cell b1 3; have q4 := blk_cell b2 2; have HB := Aside0.mk (HFIN.out _ hb); clear hb b1 b2; simp at q2 q3 q4)
   go_ret
   exact ⟨by rw [HF.out]; rfl, HB.out⟩
set_option maxHeartbeats 4000000 in
set_option maxRecDepth 100000 in
theorem shape7 (s : ByteArray) (cols : Int) (A : Option Addr) (n c g gf : Nat) (left : Int) (b : Bool) (w : World) (hn : n ≤ 9223372036854775807)
  (hg : w.heap[g]? = some (.cells #[.slice (some ⟨gf, 0, none⟩) 13 13, .int .i64 left] 103 (0, 0))) (hf : w.heap[gf]? = some (.cells formCells 113 (0, 0)))
  (ht : ∀ W, Calls Tryd.prog 113 #[.string s] W fun e W' => e = .returned (.bool b) ∧ Below W.heap.size W W') :
  Calls Tryd.prog 119 #[.pointer (some ⟨g, 0, none⟩), .agg #[.int .i64 7, .string s, .int .i64 cols, .slice A n c]] w fun e w' => e = .returned (.bool (shT b cols n 2)) ∧ Below w.heap.size w w' := by
 have hc := blk_cell hg 0
 have hfc0 := blk_cell hf 21
 have hfc1 := blk_cell hf 22
 have hfc2 := blk_cell hf 23
 have hlg := blk_lt hg
 have hlf := blk_lt hf
 have hu113 := Tryd.underlying113
 have hu36 := Tryd.underlying36
 have hu103 := Tryd.underlying103
 simp [formCells, str, fnv] at hc hfc0 hfc1 hfc2
 have HT := Aside0.mk ht
 clear hg hf ht

 have hfin : ∀ w', Below ((w.alloc (.cells #[.int .i64 7, .string s, .int .i64 cols, .slice A n c] 36)).alloc (.cells #[.string ⟨#[115, 117, 98]⟩, .func (.func 113) #[] #[], .int .i64 2] 113)).drew.heap.size ((w.alloc (.cells #[.int .i64 7, .string s, .int .i64 cols, .slice A n c] 36)).alloc (.cells #[.string ⟨#[115, 117, 98]⟩, .func (.func 113) #[] #[], .int .i64 2] 113)).drew w' → Below w.heap.size w w' := fun w' hb => below_step (below_drew1 (below_alloc (below_alloc (Below.refl _ _) _) _)) hb
 have HFIN := Aside0.mk hfin
 clear hfin
 cases b with
 | false =>
  have HF : Aside0 (shT false cols n 2 = false) := ⟨by rfl⟩
  go_enter Tryd.func119, Tryd.ntmps119
  go_wp2
  go_region
  go_wp2_with (go_at_call 113; refine (HT.out _).mono ?_; rintro e w' ⟨rfl, hb⟩; have HB := Aside0.mk (HFIN.out _ hb); clear hb)
  go_ret
  exact ⟨by rw [HF.out]; rfl, HB.out⟩
 | true =>
  by_cases h1 : cols = 0
  ·
   subst h1
   by_cases h2 : n = 2
   ·
    subst h2
    have HF : Aside0 (shT true 0 2 2 = true) := ⟨by rfl⟩
    go_enter Tryd.func119, Tryd.ntmps119
    go_wp2
    go_region
    go_wp2_with (go_at_call 113; refine (HT.out _).mono ?_; rintro e w' ⟨rfl, hb⟩; have b1 := blk_below (blk_drew (blk_alloc (blk_new w _) _)) hb; have b2 := blk_below (blk_drew (blk_new (w.alloc _) _)) hb; have q2 := blk_cell b1 2; have q3 := blk_cell b1 3; have q4 := blk_cell b2 2; have HB := Aside0.mk (HFIN.out _ hb); clear hb b1 b2; simp at q2 q3 q4)
    go_ret
    exact ⟨by rw [HF.out]; rfl, HB.out⟩
   ·
    have h2b : ((n : Int) == 2) = false := by simp; omega
    have HF : Aside0 (shT true 0 n 2 = false) := ⟨by unfold shT; simp [h2]⟩
    go_enter Tryd.func119, Tryd.ntmps119
    go_wp2
    go_region
    go_wp2_with (go_at_call 113; refine (HT.out _).mono ?_; rintro e w' ⟨rfl, hb⟩; have b1 := blk_below (blk_drew (blk_alloc (blk_new w _) _)) hb; have b2 := blk_below (blk_drew (blk_new (w.alloc _) _)) hb; have q2 := blk_cell b1 2; have q3 := blk_cell b1 3; have q4 := blk_cell b2 2; have HB := Aside0.mk (HFIN.out _ hb); clear hb b1 b2; simp at q2 q3 q4)
    go_ret
    exact ⟨by rw [HF.out]; rfl, HB.out⟩
  ·
   have h1b : (cols == 0) = false := by simpa using h1
   have HF : Aside0 (shT true cols n 2 = false) := ⟨by unfold shT; simp [h1]⟩
   go_enter Tryd.func119, Tryd.ntmps119
   go_wp2
   go_region
   go_wp2_with (go_at_call 113; refine (HT.out _).mono ?_; rintro e w' ⟨rfl, hb⟩; have b1 := blk_below (blk_drew (blk_alloc (blk_new w _) _)) hb; have b2 := blk_below (blk_drew (blk_new (w.alloc _) _)) hb; have q2 := blk_cell b1 2; have q3 := blk_cell b1 3; have q4 := blk_cell b2 2; have HB := Aside0.mk (HFIN.out _ hb); clear hb b1 b2; simp at q2 q3 q4)
   go_ret
   exact ⟨by rw [HF.out]; rfl, HB.out⟩
end Go.Proofs.YtagkhoeidjlahaaDoor.G
