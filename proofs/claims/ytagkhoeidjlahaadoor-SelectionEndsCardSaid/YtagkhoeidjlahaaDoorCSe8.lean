-- Written by pack2.py: this session's texts and the printer's, pruned.
import Derived.Test.YtagkhoeidjlahaaDoorCSe2
import Derived.Test.YtagkhoeidjlahaaDoorCSe4
import Derived.Test.YtagkhoeidjlahaaDoorCSe5
import Derived.Test.YtagkhoeidjlahaaDoorCSe6
import Derived.Test.YtagkhoeidjlahaaDoorCSe7
namespace Go.Proofs.YtagkhoeidjlahaaDoor.G
open Go.RowKit Go.Proofs.YtagkhoeidjlahaaDoorW.PrintWords Go.Proofs.YtagkhoeidjlahaaDoorW.PrintLast Go.Proofs.YtagkhoeidjlahaaDoorW.PrintMore
attribute [local go_sem] max2_int min2_int max_two min_two max_three min_three max_four min_four
set_option linter.unusedVariables false
set_option linter.unusedSimpArgs false
set_option maxHeartbeats 4000000 in
set_option maxRecDepth 100000 in
theorem shape10 (s : ByteArray) (cols : Int) (A : Option Addr) (n c g gf : Nat) (left : Int) (b : Bool) (w : World) (hn : n ≤ 9223372036854775807)
  (hg : w.heap[g]? = some (.cells #[.slice (some ⟨gf, 0, none⟩) 13 13, .int .i64 left] 103 (0, 0))) (hf : w.heap[gf]? = some (.cells formCells 113 (0, 0)))
  (ht : ∀ W, Calls Tryd.prog 117 #[.string s] W fun e W' => e = .returned (.bool b) ∧ Below W.heap.size W W') :
  Calls Tryd.prog 119 #[.pointer (some ⟨g, 0, none⟩), .agg #[.int .i64 10, .string s, .int .i64 cols, .slice A n c]] w fun e w' => e = .returned (.bool (shT b cols n 1)) ∧ Below w.heap.size w w' := by
 have hc := blk_cell hg 0
 have hfc0 := blk_cell hf 30
 have hfc1 := blk_cell hf 31
 have hfc2 := blk_cell hf 32
 have hlg := blk_lt hg
 have hlf := blk_lt hf
 have hu113 := Tryd.underlying113
 have hu36 := Tryd.underlying36
 have hu103 := Tryd.underlying103
 simp [formCells, str, fnv] at hc hfc0 hfc1 hfc2
 have HT := Aside0.mk ht
 clear hg hf ht

 have hfin : ∀ w', Below ((w.alloc (.cells #[.int .i64 10, .string s, .int .i64 cols, .slice A n c] 36)).alloc (.cells #[.string ⟨#[97, 99, 99, 101, 110, 116]⟩, .func (.func 117) #[] #[], .int .i64 1] 113)).drew.heap.size ((w.alloc (.cells #[.int .i64 10, .string s, .int .i64 cols, .slice A n c] 36)).alloc (.cells #[.string ⟨#[97, 99, 99, 101, 110, 116]⟩, .func (.func 117) #[] #[], .int .i64 1] 113)).drew w' → Below w.heap.size w w' := fun w' hb => below_step (below_drew1 (below_alloc (below_alloc (Below.refl _ _) _) _)) hb
 have HFIN := Aside0.mk hfin
 clear hfin
 cases b with
 | false =>
  have HF : Aside0 (shT false cols n 1 = false) := ⟨by rfl⟩
  go_enter Tryd.func119, Tryd.ntmps119
  go_wp2
  go_region
  go_wp2_with (go_at_call 117; refine (HT.out _).mono ?_; rintro e w' ⟨rfl, hb⟩; have HB := Aside0.mk (HFIN.out _ hb); clear hb)
  go_ret
  exact ⟨by rw [HF.out]; rfl, HB.out⟩
 | true =>
  by_cases h1 : cols = 0
  ·
   subst h1
   by_cases h2 : n = 1
   ·
    subst h2
    have HF : Aside0 (shT true 0 1 1 = true) := ⟨by rfl⟩
    go_enter Tryd.func119, Tryd.ntmps119
    go_wp2
    go_region
    go_wp2_with (go_at_call 117; refine (HT.out _).mono ?_; rintro e w' ⟨rfl, hb⟩; have b1 := blk_below (blk_drew (blk_alloc (blk_new w _) _)) hb; have b2 := blk_below (blk_drew (blk_new (w.alloc _) _)) hb; have q2 := blk_cell b1 2; have q3 := blk_cell b1 3; have q4 := blk_cell b2 2; have HB := Aside0.mk (HFIN.out _ hb); clear hb b1 b2; simp at q2 q3 q4)
    go_ret
    exact ⟨by rw [HF.out]; rfl, HB.out⟩
   ·
    have h2b : ((n : Int) == 1) = false := by simp; omega
    have HF : Aside0 (shT true 0 n 1 = false) := ⟨by unfold shT; simp [h2]⟩
    go_enter Tryd.func119, Tryd.ntmps119
    go_wp2
    go_region
    go_wp2_with (go_at_call 117; refine (HT.out _).mono ?_; rintro e w' ⟨rfl, hb⟩; have b1 := blk_below (blk_drew (blk_alloc (blk_new w _) _)) hb; have b2 := blk_below (blk_drew (blk_new (w.alloc _) _)) hb; have q2 := blk_cell b1 2; have q3 := blk_cell b1 3; have q4 := blk_cell b2 2; have HB := Aside0.mk (HFIN.out _ hb); clear hb b1 b2; simp at q2 q3 q4)
    go_ret
    exact ⟨by rw [HF.out]; rfl, HB.out⟩
  ·
   have h1b : (cols == 0) = false := by simpa using h1
   have HF : Aside0 (shT true cols n 1 = false) := ⟨by unfold shT; simp [h1]⟩
   go_enter Tryd.func119, Tryd.ntmps119
   go_wp2
   go_region
   go_wp2_with (go_at_call 117; refine (HT.out _).mono ?_; rintro e w' ⟨rfl, hb⟩; have b1 := blk_below (blk_drew (blk_alloc (blk_new w _) _)) hb; have b2 := blk_below (blk_drew (blk_new (w.alloc _) _)) hb; have q2 := blk_cell b1 2; have q3 := blk_cell b1 3; have q4 := blk_cell b2 2; have HB := Aside0.mk (HFIN.out _ hb); clear hb b1 b2; simp at q2 q3 q4)
   go_ret
   exact ⟨by rw [HF.out]; rfl, HB.out⟩
set_option maxHeartbeats 4000000 in
set_option maxRecDepth 100000 in
theorem shape11 (s : ByteArray) (cols : Int) (A : Option Addr) (n c g gf : Nat) (left : Int) (b : Bool) (w : World) (hn : n ≤ 9223372036854775807)
  (hg : w.heap[g]? = some (.cells #[.slice (some ⟨gf, 0, none⟩) 13 13, .int .i64 left] 103 (0, 0))) (hf : w.heap[gf]? = some (.cells formCells 113 (0, 0)))
  (ht : ∀ W, Calls Tryd.prog 118 #[.string s] W fun e W' => e = .returned (.bool b) ∧ Below W.heap.size W W') :
  Calls Tryd.prog 119 #[.pointer (some ⟨g, 0, none⟩), .agg #[.int .i64 11, .string s, .int .i64 cols, .slice A n c]] w fun e w' => e = .returned (.bool (shT b cols n 1)) ∧ Below w.heap.size w w' := by
 have hc := blk_cell hg 0
 have hfc0 := blk_cell hf 33
 have hfc1 := blk_cell hf 34
 have hfc2 := blk_cell hf 35
 have hlg := blk_lt hg
 have hlf := blk_lt hf
 have hu113 := Tryd.underlying113
 have hu36 := Tryd.underlying36
 have hu103 := Tryd.underlying103
 simp [formCells, str, fnv] at hc hfc0 hfc1 hfc2
 have HT := Aside0.mk ht
 clear hg hf ht

 have hfin : ∀ w', Below ((w.alloc (.cells #[.int .i64 11, .string s, .int .i64 cols, .slice A n c] 36)).alloc (.cells #[.string ⟨#[102, 101, 110, 99, 101]⟩, .func (.func 118) #[] #[], .int .i64 1] 113)).drew.heap.size ((w.alloc (.cells #[.int .i64 11, .string s, .int .i64 cols, .slice A n c] 36)).alloc (.cells #[.string ⟨#[102, 101, 110, 99, 101]⟩, .func (.func 118) #[] #[], .int .i64 1] 113)).drew w' → Below w.heap.size w w' := fun w' hb => below_step (below_drew1 (below_alloc (below_alloc (Below.refl _ _) _) _)) hb
 have HFIN := Aside0.mk hfin
 clear hfin
 cases b with
 | false =>
  have HF : Aside0 (shT false cols n 1 = false) := ⟨by rfl⟩
  go_enter Tryd.func119, Tryd.ntmps119
  go_wp2
  go_region
  go_wp2_with (go_at_call 118; refine (HT.out _).mono ?_; rintro e w' ⟨rfl, hb⟩; have HB := Aside0.mk (HFIN.out _ hb); clear hb)
  go_ret
  exact ⟨by rw [HF.out]; rfl, HB.out⟩
 | true =>
  by_cases h1 : cols = 0
  ·
   subst h1
   by_cases h2 : n = 1
   ·
    subst h2
    have HF : Aside0 (shT true 0 1 1 = true) := ⟨by rfl⟩
    go_enter Tryd.func119, Tryd.ntmps119
    go_wp2
    go_region
    go_wp2_with (go_at_call 118; refine (HT.out _).mono ?_; rintro e w' ⟨rfl, hb⟩; have b1 := blk_below (blk_drew (blk_alloc (blk_new w _) _)) hb; have b2 := blk_below (blk_drew (blk_new (w.alloc _) _)) hb; have q2 := blk_cell b1 2; have q3 := blk_cell b1 3; have q4 := blk_cell b2 2; have HB := Aside0.mk (HFIN.out _ hb); clear hb b1 b2; simp at q2 q3 q4)
    go_ret
    exact ⟨by rw [HF.out]; rfl, HB.out⟩
   ·
    have h2b : ((n : Int) == 1) = false := by simp; omega
    have HF : Aside0 (shT true 0 n 1 = false) := ⟨by unfold shT; simp [h2]⟩
    go_enter Tryd.func119, Tryd.ntmps119
    go_wp2
    go_region
    go_wp2_with (go_at_call 118; refine (HT.out _).mono ?_; rintro e w' ⟨rfl, hb⟩; have b1 := blk_below (blk_drew (blk_alloc (blk_new w _) _)) hb; have b2 := blk_below (blk_drew (blk_new (w.alloc _) _)) hb; have q2 := blk_cell b1 2; have q3 := blk_cell b1 3; have q4 := blk_cell b2 2; have HB := Aside0.mk (HFIN.out _ hb); clear hb b1 b2; simp at q2 q3 q4)
    go_ret
    exact ⟨by rw [HF.out]; rfl, HB.out⟩
  ·
   have h1b : (cols == 0) = false := by simpa using h1
   have HF : Aside0 (shT true cols n 1 = false) := ⟨by unfold shT; simp [h1]⟩
   go_enter Tryd.func119, Tryd.ntmps119
   go_wp2
   go_region
   go_wp2_with (go_at_call 118; refine (HT.out _).mono ?_; rintro e w' ⟨rfl, hb⟩; have b1 := blk_below (blk_drew (blk_alloc (blk_new w _) _)) hb; have b2 := blk_below (blk_drew (blk_new (w.alloc _) _)) hb; have q2 := blk_cell b1 2; have q3 := blk_cell b1 3; have q4 := blk_cell b2 2; have HB := Aside0.mk (HFIN.out _ hb); clear hb b1 b2; simp at q2 q3 q4)
   go_ret
   exact ⟨by rw [HF.out]; rfl, HB.out⟩
set_option maxHeartbeats 4000000 in
set_option maxRecDepth 100000 in
theorem shape8 (s : ByteArray) (cols : Int) (A : Option Addr) (n c g gf : Nat) (left : Int) (b : Bool) (w : World) (hn : n ≤ 9223372036854775807)
  (hg : w.heap[g]? = some (.cells #[.slice (some ⟨gf, 0, none⟩) 13 13, .int .i64 left] 103 (0, 0))) (hf : w.heap[gf]? = some (.cells formCells 113 (0, 0)))
  (ht : ∀ W, Calls Tryd.prog 113 #[.string s] W fun e W' => e = .returned (.bool b) ∧ Below W.heap.size W W') :
  Calls Tryd.prog 119 #[.pointer (some ⟨g, 0, none⟩), .agg #[.int .i64 8, .string s, .int .i64 cols, .slice A n c]] w fun e w' => e = .returned (.bool (shT b cols n 2)) ∧ Below w.heap.size w w' := by
 have hc := blk_cell hg 0
 have hfc0 := blk_cell hf 24
 have hfc1 := blk_cell hf 25
 have hfc2 := blk_cell hf 26
 have hlg := blk_lt hg
 have hlf := blk_lt hf
 have hu113 := Tryd.underlying113
 have hu36 := Tryd.underlying36
 have hu103 := Tryd.underlying103
 simp [formCells, str, fnv] at hc hfc0 hfc1 hfc2
 have HT := Aside0.mk ht
 clear hg hf ht

 have hfin : ∀ w', Below ((w.alloc (.cells #[.int .i64 8, .string s, .int .i64 cols, .slice A n c] 36)).alloc (.cells #[.string ⟨#[115, 117, 112]⟩, .func (.func 113) #[] #[], .int .i64 2] 113)).drew.heap.size ((w.alloc (.cells #[.int .i64 8, .string s, .int .i64 cols, .slice A n c] 36)).alloc (.cells #[.string ⟨#[115, 117, 112]⟩, .func (.func 113) #[] #[], .int .i64 2] 113)).drew w' → Below w.heap.size w w' := fun w' hb => below_step (below_drew1 (below_alloc (below_alloc (Below.refl _ _) _) _)) hb
 have HFIN := Aside0.mk hfin
 clear hfin
 cases b with
 | false =>
  have HF : Aside0 (shT false cols n 2 = false) := ⟨by rfl⟩
  go_enter Tryd.func119, Tryd.ntmps119
  go_wp2
  go_region
  go_wp2_with (go_at_call 113; refine (HT.out _).mono ?_; rintro e w' ⟨rfl, hb⟩; have HB := Aside0.mk (HFIN.out _ hb); clear hb)
  go_ret
  exact ⟨by rw [HF.out]; rfl, HB.out⟩
 | true =>
  by_cases h1 : cols = 0
  ·
   subst h1
   by_cases h2 : n = 2
   ·
    subst h2
    have HF : Aside0 (shT true 0 2 2 = true) := ⟨by rfl⟩
    go_enter Tryd.func119, Tryd.ntmps119
    go_wp2
    go_region
    go_wp2_with (go_at_call 113; refine (HT.out _).mono ?_; rintro e w' ⟨rfl, hb⟩; have b1 := blk_below (blk_drew (blk_alloc (blk_new w _) _)) hb; have b2 := blk_below (blk_drew (blk_new (w.alloc _) _)) hb; have q2 := blk_cell b1 2; have q3 := blk_cell b1 3; have q4 := blk_cell b2 2; have HB := Aside0.mk (HFIN.out _ hb); clear hb b1 b2; simp at q2 q3 q4)
    go_ret
    exact ⟨by rw [HF.out]; rfl, HB.out⟩
   ·
    have h2b : ((n : Int) == 2) = false := by simp; omega
    have HF : Aside0 (shT true 0 n 2 = false) := ⟨by unfold shT; simp [h2]⟩
    go_enter Tryd.func119, Tryd.ntmps119
    go_wp2
    go_region
    go_wp2_with (go_at_call 113; refine (HT.out _).mono ?_; rintro e w' ⟨rfl, hb⟩; have b1 := blk_below (blk_drew (blk_alloc (blk_new w _) _)) hb; have b2 := blk_below (blk_drew (blk_new (w.alloc _) _)) hb; have q2 := blk_cell b1 2; have q3 := blk_cell b1 3; have q4 := blk_cell b2 2; have HB := Aside0.mk (HFIN.out _ hb); clear hb b1 b2; simp at q2 q3 q4)
    go_ret
    exact ⟨by rw [HF.out]; rfl, HB.out⟩
  ·
   have h1b : (cols == 0) = false := by simpa using h1
   have HF : Aside0 (shT true cols n 2 = false) := ⟨by unfold shT; simp [h1]⟩
   go_enter Tryd.func119, Tryd.ntmps119
   go_wp2
   go_region
   go_wp2_with (go_at_call 113; refine (HT.out _).mono ?_; rintro e w' ⟨rfl, hb⟩; have b1 := blk_below (blk_drew (blk_alloc (blk_new w _) _)) hb; have b2 := blk_below (blk_drew (blk_new (w.alloc _) _)) hb; have q2 := blk_cell b1 2; have q3 := blk_cell b1 3; have q4 := blk_cell b2 2; have HB := Aside0.mk (HFIN.out _ hb); clear hb b1 b2; simp at q2 q3 q4)
   go_ret
   exact ⟨by rw [HF.out]; rfl, HB.out⟩
set_option maxHeartbeats 4000000 in
set_option maxRecDepth 100000 in
theorem shape9 (s : ByteArray) (cols : Int) (A : Option Addr) (n c g gf : Nat) (left : Int) (b : Bool) (w : World) (hn : n ≤ 9223372036854775807)
  (hg : w.heap[g]? = some (.cells #[.slice (some ⟨gf, 0, none⟩) 13 13, .int .i64 left] 103 (0, 0))) (hf : w.heap[gf]? = some (.cells formCells 113 (0, 0)))
  (ht : ∀ W, Calls Tryd.prog 113 #[.string s] W fun e W' => e = .returned (.bool b) ∧ Below W.heap.size W W') :
  Calls Tryd.prog 119 #[.pointer (some ⟨g, 0, none⟩), .agg #[.int .i64 9, .string s, .int .i64 cols, .slice A n c]] w fun e w' => e = .returned (.bool (shT b cols n 3)) ∧ Below w.heap.size w w' := by
 have hc := blk_cell hg 0
 have hfc0 := blk_cell hf 27
 have hfc1 := blk_cell hf 28
 have hfc2 := blk_cell hf 29
 have hlg := blk_lt hg
 have hlf := blk_lt hf
 have hu113 := Tryd.underlying113
 have hu36 := Tryd.underlying36
 have hu103 := Tryd.underlying103
 simp [formCells, str, fnv] at hc hfc0 hfc1 hfc2
 have HT := Aside0.mk ht
 clear hg hf ht

 have hfin : ∀ w', Below ((w.alloc (.cells #[.int .i64 9, .string s, .int .i64 cols, .slice A n c] 36)).alloc (.cells #[.string ⟨#[98, 111, 116, 104]⟩, .func (.func 113) #[] #[], .int .i64 3] 113)).drew.heap.size ((w.alloc (.cells #[.int .i64 9, .string s, .int .i64 cols, .slice A n c] 36)).alloc (.cells #[.string ⟨#[98, 111, 116, 104]⟩, .func (.func 113) #[] #[], .int .i64 3] 113)).drew w' → Below w.heap.size w w' := fun w' hb => below_step (below_drew1 (below_alloc (below_alloc (Below.refl _ _) _) _)) hb
 have HFIN := Aside0.mk hfin
 clear hfin
 cases b with
 | false =>
  have HF : Aside0 (shT false cols n 3 = false) := ⟨by rfl⟩
  go_enter Tryd.func119, Tryd.ntmps119
  go_wp2
  go_region
  go_wp2_with (go_at_call 113; refine (HT.out _).mono ?_; rintro e w' ⟨rfl, hb⟩; have HB := Aside0.mk (HFIN.out _ hb); clear hb)
  go_ret
  exact ⟨by rw [HF.out]; rfl, HB.out⟩
 | true =>
  by_cases h1 : cols = 0
  ·
   subst h1
   by_cases h2 : n = 3
   ·
    subst h2
    have HF : Aside0 (shT true 0 3 3 = true) := ⟨by rfl⟩
    go_enter Tryd.func119, Tryd.ntmps119
    go_wp2
    go_region
    go_wp2_with (go_at_call 113; refine (HT.out _).mono ?_; rintro e w' ⟨rfl, hb⟩; have b1 := blk_below (blk_drew (blk_alloc (blk_new w _) _)) hb; have b2 := blk_below (blk_drew (blk_new (w.alloc _) _)) hb; have q2 := blk_cell b1 2; have q3 := blk_cell b1 3; have q4 := blk_cell b2 2; have HB := Aside0.mk (HFIN.out _ hb); clear hb b1 b2; simp at q2 q3 q4)
    go_ret
    exact ⟨by rw [HF.out]; rfl, HB.out⟩
   ·
    have h2b : ((n : Int) == 3) = false := by simp; omega
    have HF : Aside0 (shT true 0 n 3 = false) := ⟨by unfold shT; simp [h2]⟩
    go_enter Tryd.func119, Tryd.ntmps119
    go_wp2
    go_region
    go_wp2_with (go_at_call 113; refine (HT.out _).mono ?_; rintro e w' ⟨rfl, hb⟩; have b1 := blk_below (blk_drew (blk_alloc (blk_new w _) _)) hb; have b2 := blk_below (blk_drew (blk_new (w.alloc _) _)) hb; have q2 := blk_cell b1 2; have q3 := blk_cell b1 3; have q4 := blk_cell b2 2; have HB := Aside0.mk (HFIN.out _ hb); clear hb b1 b2; simp at q2 q3 q4)
    go_ret
    exact ⟨by rw [HF.out]; rfl, HB.out⟩
  ·
   have h1b : (cols == 0) = false := by simpa using h1
   have HF : Aside0 (shT true cols n 3 = false) := ⟨by unfold shT; simp [h1]⟩
   go_enter Tryd.func119, Tryd.ntmps119
   go_wp2
   go_region
   go_wp2_with (go_at_call 113; refine (HT.out _).mono ?_; rintro e w' ⟨rfl, hb⟩; have b1 := blk_below (blk_drew (blk_alloc (blk_new w _) _)) hb; have b2 := blk_below (blk_drew (blk_new (w.alloc _) _)) hb; have q2 := blk_cell b1 2; have q3 := blk_cell b1 3; have q4 := blk_cell b2 2; have HB := Aside0.mk (HFIN.out _ hb); clear hb b1 b2; simp at q2 q3 q4)
   go_ret
   exact ⟨by rw [HF.out]; rfl, HB.out⟩
def shapeF (k : Nat) (kd : Int) (s : ByteArray) (cols : Int) (n : Nat) : Option Bool :=
 if kd = 1 then some (shR s cols n) else if kd = 12 then some (shM s cols n)
 else if kd = 2 then (node_Symbol.f k s).bind fun b => some (shT b cols n 0)
 else if kd = 3 then (node_Number.f s).bind fun b => some (shT b cols n 0)
 else if kd = 4 then (node_printable.f k s).bind fun b => some (shT b cols n 0)
 else if kd = 10 then (node_accent.f k s).bind fun b => some (shT b cols n 1)
 else if kd = 11 then (node_fence.f s).bind fun b => some (shT b cols n 1)
 else if kd = 9 then some (shT (s.toList == []) cols n 3)
 else if 5 ≤ kd ∧ kd ≤ 8 then some (shT (s.toList == []) cols n 2)
 else some false
theorem shape_calls (k : Nat) (kd : Int) (s : ByteArray) (cols : Int) (A : Option Addr) (n c g gf : Nat) (left : Int) (b : Bool) (w : World) (hn : n ≤ 9223372036854775807)
  (hg : w.heap[g]? = some (.cells #[.slice (some ⟨gf, 0, none⟩) 13 13, .int .i64 left] 103 (0, 0))) (hf : w.heap[gf]? = some (.cells formCells 113 (0, 0))) (h : shapeF k kd s cols n = some b) :
  Calls Tryd.prog 119 #[.pointer (some ⟨g, 0, none⟩), .agg #[.int .i64 kd, .string s, .int .i64 cols, .slice A n c]] w fun e w' => e = .returned (.bool b) ∧ Below w.heap.size w w' := by
 have he : ∀ W, Calls Tryd.prog 113 #[.string s] W fun e W' => e = .returned (.bool (s.toList == [])) ∧ Below W.heap.size W W' := fun W => (node_empty.calls s _ W rfl).mono fun e W' ⟨h1, h2⟩ => ⟨h1, h2.below⟩
 unfold shapeF at h
 by_cases k1 : kd = 1
 ·
  rw [if_pos k1] at h
  cases h
  subst k1
  exact shape1 s cols A n c g gf left w hn hg hf
 rw [if_neg k1] at h
 by_cases k12 : kd = 12
 ·
  rw [if_pos k12] at h
  cases h
  subst k12
  exact shape12 s cols A n c g gf left w hn hg hf
 rw [if_neg k12] at h
 by_cases k2 : kd = 2
 ·
  rw [if_pos k2] at h
  subst k2
  obtain ⟨t, ht, h⟩ := Option.bind_eq_some_iff.mp h
  cases h
  exact shape2 s cols A n c g gf left t w hn hg hf fun W => node_Symbol.calls k s t W ht
 rw [if_neg k2] at h
 by_cases k3 : kd = 3
 ·
  rw [if_pos k3] at h
  subst k3
  obtain ⟨t, ht, h⟩ := Option.bind_eq_some_iff.mp h
  cases h
  exact shape3 s cols A n c g gf left t w hn hg hf fun W => node_Number.calls s t W ht
 rw [if_neg k3] at h
 by_cases k4 : kd = 4
 ·
  rw [if_pos k4] at h
  subst k4
  obtain ⟨t, ht, h⟩ := Option.bind_eq_some_iff.mp h
  cases h
  exact shape4 s cols A n c g gf left t w hn hg hf fun W => (node_printable.calls k s t W ht).mono fun e W' ⟨h1, h2⟩ => ⟨h1, h2.below⟩
 rw [if_neg k4] at h
 by_cases k10 : kd = 10
 ·
  rw [if_pos k10] at h
  subst k10
  obtain ⟨t, ht, h⟩ := Option.bind_eq_some_iff.mp h
  cases h
  exact shape10 s cols A n c g gf left t w hn hg hf fun W => node_accent.calls k s t W ht
 rw [if_neg k10] at h
 by_cases k11 : kd = 11
 ·
  rw [if_pos k11] at h
  subst k11
  obtain ⟨t, ht, h⟩ := Option.bind_eq_some_iff.mp h
  cases h
  exact shape11 s cols A n c g gf left t w hn hg hf fun W => (node_fence.calls s t W ht).mono fun e W' ⟨h1, h2⟩ => ⟨h1, h2.below⟩
 rw [if_neg k11] at h
 by_cases k9 : kd = 9
 ·
  rw [if_pos k9] at h
  cases h
  subst k9
  exact shape9 s cols A n c g gf left _ w hn hg hf he
 rw [if_neg k9] at h
 by_cases k58 : 5 ≤ kd ∧ kd ≤ 8
 ·
  rw [if_pos k58] at h
  cases h
  have : kd = 5 ∨ kd = 6 ∨ kd = 7 ∨ kd = 8 := by omega
  rcases this with rfl | rfl | rfl | rfl
  ·
   exact shape5 s cols A n c g gf left _ w hn hg hf he
  ·
   exact shape6 s cols A n c g gf left _ w hn hg hf he
  ·
   exact shape7 s cols A n c g gf left _ w hn hg hf he
  ·
   exact shape8 s cols A n c g gf left _ w hn hg hf he
 rw [if_neg k58] at h
 cases h
 exact shapeOut kd s cols A n c g w (by omega)
end Go.Proofs.YtagkhoeidjlahaaDoor.G
