-- Written by pack.py, a program of this session: this session's texts and those that the kit's printer wrote for this claim, pruned to what the claim uses.
import Derived.Test.YtagkhoeidjlahaaDoorCSelectionContains4
namespace Go.Proofs.YtagkhoeidjlahaaDoor.G
open Go.RowKit Go.Proofs.YtagkhoeidjlahaaDoorW.PrintWords Go.Proofs.YtagkhoeidjlahaaDoorW.PrintLast Go.Proofs.YtagkhoeidjlahaaDoorW.PrintMore
attribute [local go_sem] max2_int min2_int max_two min_two max_three min_three max_four min_four
set_option linter.unusedVariables false
set_option linter.unusedSimpArgs false
section awc
theorem C_blk {α : Type} {d : Kd α} {W : World} {g t : Nat} {cs : List Value} {xs : List α} (hb : W.heap[g]? = some (.cells cs.toArray t (0, 0))) (hK : Reps (d.K W) d.sz xs cs) (hl : xs.length ≤ 9223372036854775807) : d.C W (some ⟨g, 0, none⟩) xs.length xs := by
  refine ⟨rfl, hl, fun _ => ⟨_, rfl, fun j p hj => ?_⟩⟩
  have h1 := hK.2 j p hj
  refine ⟨_, d.K_len h1, h1, fun i u hu => ?_⟩
  have hlt : i < d.sz := by have := (List.getElem?_eq_some_iff.1 hu).1; rw [List.length_take] at this; omega
  rw [List.getElem?_take_of_lt hlt, List.getElem?_drop] at hu
  have := (blk_cell hb (j * d.sz + i)).trans (by simpa using hu)
  have e : (⟨g, 0, none⟩ : Addr).add (j * d.sz + i) = ⟨g, j * d.sz + i, none⟩ := by unfold Addr.add; split <;> simp_all
  rw [e]; exact this
def sxNode (s : ByteArray) : S36 := ⟨2, s, 0, []⟩
def rowNode (l : List S36) : S36 := ⟨1, ⟨#[]⟩, 0, l⟩
theorem k_leaf (W : World) (s : ByteArray) : k36.K W (sxNode s) [.int .i64 2, .string s, .int .i64 0, .slice none 0 0] := k36_mk W (sxNode s) (A3 := none) (c3 := 0) (Nat.le_refl _) (Kd.C_nil _ _)
theorem k_row {W : World} {l : List S36} {A : Option Addr} {c : Nat} (hc : l.length ≤ c) (hC : k36.C W A l.length l) : k36.K W (rowNode l) [.int .i64 1, .string ⟨#[]⟩, .int .i64 0, .slice A l.length c] := k36_mk W (rowNode l) hc hC
theorem sym_calls (s : ByteArray) (w : World) : Calls Tryd.prog 76 #[.string s] w fun e w' => e = .returned (.agg #[.int .i64 2, .string s, .int .i64 0, .slice none 0 0]) ∧ Below w.heap.size w w' := by
  have hu36 := Tryd.underlying36
  go_enter Tryd.func76, Tryd.ntmps76
  go_wp2
  refine bodyPost_ret (results_cell_row rfl _ _ w.heap.size 36 #[.int .i64 2, .string s, .int .i64 0, .slice none 0 0] (0, 0) _ rfl (blk_new w _) Tryd.underlying36 rfl (by kernel_rfl)) rfl ?_
  exact ⟨rfl, below_alloc (Below.refl _ _) _⟩
theorem row_calls (A : Option Addr) (n c : Nat) (w : World) : Calls Tryd.prog 77 #[.slice A n c] w fun e w' => e = .returned (.agg #[.int .i64 1, .string ⟨#[]⟩, .int .i64 0, .slice A n c]) ∧ Below w.heap.size w w' := by
  have hu36 := Tryd.underlying36
  go_enter Tryd.func77, Tryd.ntmps77
  go_wp2
  refine bodyPost_ret (results_cell_row rfl _ _ w.heap.size 36 #[.int .i64 1, .string ⟨#[]⟩, .int .i64 0, .slice A n c] (0, 0) _ rfl (blk_new w _) Tryd.underlying36 rfl (by kernel_rfl)) rfl ?_
  exact ⟨rfl, below_alloc (Below.refl _ _) _⟩
def awTree : List S36 := [sxNode ⟨#[120]⟩, ⟨5, ⟨#[]⟩, 0, [rowNode [sxNode ⟨#[97]⟩], rowNode [sxNode ⟨#[98]⟩]]⟩]
end awc
end Go.Proofs.YtagkhoeidjlahaaDoor.G
namespace Go.Proofs.YtagkhoeidjlahaaDoor.G
open Go.RowKit Go.Proofs.YtagkhoeidjlahaaDoorW.PrintWords Go.Proofs.YtagkhoeidjlahaaDoorW.PrintLast Go.Proofs.YtagkhoeidjlahaaDoorW.PrintMore
attribute [local go_sem] max2_int min2_int max_two min_two max_three min_three max_four min_four
set_option linter.unusedVariables false
set_option linter.unusedSimpArgs false
def vinculumlaw11_awake.f (k : Nat) : Option Bool := (selection_Between.f k 1 ⟨#[]⟩ 0 awTree [1, 0, 0] [1, 1, 1]).bind fun r => some (decide (r.2.2.2 = 0) && decide (r.1.length = 0) && decide (r.2.1 = 1) && decide (r.2.2.1 = 2))
set_option maxHeartbeats 4000000 in

theorem vinculumlaw11_awake.calls (k : Nat)  (r : Bool) (w : World) (h : vinculumlaw11_awake.f k  = some r) :
    Calls Tryd.prog 45 #[] w fun e w' => e = .returned (.bool r) ∧ Below w.heap.size w w' := by
  have hu36 := Tryd.underlying36
  have hu54 := Tryd.underlying54
  obtain ⟨⟨q1, q2, q3, q4⟩, hq, h⟩ := Option.bind_eq_some_iff.mp h
  have HQ := Aside0.mk hq
  have HH := Aside0.mk h
  clear hq h
  go_enter Tryd.func45, Tryd.ntmps45
  go_wp2_with fail
  refine (sym_calls _ _).mono ?_
  rintro e w1 ⟨rfl, hb1⟩
  have HB1 := Aside0.mk hb1
  clear hb1
  go_wp2_with fail
  refine (sym_calls _ _).mono ?_
  rintro e w2 ⟨rfl, hb⟩
  have HB2 := Aside0.mk (below_step HB1.out hb)
  clear hb HB1
  go_wp2_with fail
  have h1 := blk_new w2 (.cells #[.int .i64 2, .string ⟨#[97]⟩, .int .i64 0, .slice none 0 0] 36)
  refine (row_calls _ _ _ _).mono ?_
  rintro e w3 ⟨rfl, hb⟩
  have C1 := Aside0.mk (Kd.C_below (C_blk (d := k36) (cs := [.int .i64 2, .string ⟨#[97]⟩, .int .i64 0, .slice none 0 0]) h1 (Reps.c4 (k_leaf _ ⟨#[97]⟩) (Reps.none _ _)) (by decide)) hb)
  have HB3 := Aside0.mk (below_step (below_alloc HB2.out _) hb)
  clear hb HB2 h1
  go_wp2_with fail
  refine (sym_calls _ _).mono ?_
  rintro e w4 ⟨rfl, hb⟩
  have C2 := Aside0.mk (Kd.C_below C1.out hb)
  have HB4 := Aside0.mk (below_step HB3.out hb)
  clear hb HB3 C1
  go_wp2_with fail
  have h1 := blk_new w4 (.cells #[.int .i64 2, .string ⟨#[98]⟩, .int .i64 0, .slice none 0 0] 36)
  refine (row_calls _ _ _ _).mono ?_
  rintro e w5 ⟨rfl, hb⟩
  have C3 := Aside0.mk (Kd.C_below (C_blk (d := k36) (cs := [.int .i64 2, .string ⟨#[98]⟩, .int .i64 0, .slice none 0 0]) h1 (Reps.c4 (k_leaf _ ⟨#[98]⟩) (Reps.none _ _)) (by decide)) hb)
  have C4 := Aside0.mk (Kd.C_below (Kd.C_alloc C2.out _) hb)
  have HB5 := Aside0.mk (below_step (below_alloc HB4.out _) hb)
  clear hb HB4 C2 h1
  go_wp2_with fail
  have h3 := blk_new w5 (.cells #[.int .i64 1, .string ⟨#[]⟩, .int .i64 0, .slice (some ⟨w2.heap.size, 0, none⟩) 1 1, .int .i64 1, .string ⟨#[]⟩, .int .i64 0, .slice (some ⟨w4.heap.size, 0, none⟩) 1 1] 36)
  have C5 := C_blk (d := k36) (cs := [.int .i64 1, .string ⟨#[]⟩, .int .i64 0, .slice (some ⟨w2.heap.size, 0, none⟩) 1 1, .int .i64 1, .string ⟨#[]⟩, .int .i64 0, .slice (some ⟨w4.heap.size, 0, none⟩) 1 1]) h3 (Reps.c4 (k_row (l := [sxNode ⟨#[97]⟩]) (c := 1) (Nat.le_refl _) (Kd.C_alloc C4.out _)) (Reps.c4 (k_row (l := [sxNode ⟨#[98]⟩]) (c := 1) (Nat.le_refl _) (Kd.C_alloc C3.out _)) (Reps.none _ _))) (by decide)
  have h4 := blk_new (w5.alloc (.cells #[.int .i64 1, .string ⟨#[]⟩, .int .i64 0, .slice (some ⟨w2.heap.size, 0, none⟩) 1 1, .int .i64 1, .string ⟨#[]⟩, .int .i64 0, .slice (some ⟨w4.heap.size, 0, none⟩) 1 1] 36)) (.cells #[.int .i64 2, .string ⟨#[120]⟩, .int .i64 0, .slice none 0 0, .int .i64 5, .string ⟨#[]⟩, .int .i64 0, .slice (some ⟨w5.heap.size, 0, none⟩) 2 2] 36)
  rw [World.size_alloc] at h4
  have C6 := C_blk (d := k36) (xs := awTree) (cs := [.int .i64 2, .string ⟨#[120]⟩, .int .i64 0, .slice none 0 0, .int .i64 5, .string ⟨#[]⟩, .int .i64 0, .slice (some ⟨w5.heap.size, 0, none⟩) 2 2]) h4 (Reps.c4 (k_leaf _ ⟨#[120]⟩) (Reps.c4 (k36_mk _ (⟨5, ⟨#[]⟩, 0, [rowNode [sxNode ⟨#[97]⟩], rowNode [sxNode ⟨#[98]⟩]]⟩ : S36) (c3 := 2) (Nat.le_refl _) (Kd.C_alloc C5 _)) (Reps.none _ _))) (by decide)
  clear h3 h4 C5 C3 C4
  refine (row_calls _ _ _ _).mono ?_
  rintro e w6 ⟨rfl, hb⟩
  have C7 := Aside0.mk (Kd.C_below C6 hb)
  have HB6 := Aside0.mk (below_step (below_alloc (below_alloc HB5.out _) _) hb)
  clear hb HB5 C6
  go_wp2_with fail
  have e1 := blk_new (w6.alloc (.cells #[.int .i64 1, .string ⟨#[]⟩, .int .i64 0, .slice (some ⟨w5.heap.size + 1, 0, none⟩) 2 2] 36)) (.cells #[.int .i64 1, .int .i64 0, .int .i64 0] 3)
  have e2 := blk_new ((w6.alloc (.cells #[.int .i64 1, .string ⟨#[]⟩, .int .i64 0, .slice (some ⟨w5.heap.size + 1, 0, none⟩) 2 2] 36)).alloc (.cells #[.int .i64 1, .int .i64 0, .int .i64 0] 3)) (.cells #[.int .i64 1, .int .i64 1, .int .i64 1] 3)
  rw [World.size_alloc] at e1
  rw [World.size_alloc, World.size_alloc] at e2
  have D1 := C_blk (d := Kd.int .i64) (xs := [1, 0, 0]) (cs := [.int .i64 1, .int .i64 0, .int .i64 0]) (blk_alloc e1 (.cells #[.int .i64 1, .int .i64 1, .int .i64 1] 3)) (Reps.one rfl (Reps.one rfl (Reps.one rfl (Reps.none _ _)))) (by decide)
  have D2 := C_blk (d := Kd.int .i64) (xs := [1, 1, 1]) (cs := [.int .i64 1, .int .i64 1, .int .i64 1]) e2 (Reps.one rfl (Reps.one rfl (Reps.one rfl (Reps.none _ _)))) (by decide)
  refine (selection_Between.calls k 1 ⟨#[]⟩ 0 _ _ awTree _ _ [1, 0, 0] _ _ [1, 1, 1] q1 q2 q3 q4 _ (Kd.C_alloc (Kd.C_alloc (Kd.C_alloc C7.out _) _) _) (Nat.le_refl _) D1 (Nat.le_refl _) D2 (Nat.le_refl _) HQ.out).mono ?_
  clear e1 e2 D1 D2
  rintro e w7 ⟨v0, rfl, hR, hb⟩
  have HB7 := Aside0.mk (below_step (below_alloc (below_alloc (below_alloc HB6.out _) _) _) hb)
  obtain ⟨A7, c7, rfl⟩ := Kd.R_slice hR
  clear hb HB6 hR
  have h := HH.out
  simp only [Option.some.injEq] at h
  have fin : ∀ (b1 b2 b3 b4 : Bool), (q4 == 0) = b1 → (((q1.length : Nat) : Int) == 0) = b2 → (q2 == 1) = b3 → (q3 == 2) = b4 → (decide (q4 = 0) && decide (q1.length = 0) && decide (q2 = 1) && decide (q3 = 2)) = (b1 && b2 && b3 && b4) := by
    rintro _ _ _ _ rfl rfl rfl rfl
    rw [Bool.eq_iff_iff]
    simp
  obtain ⟨b1, hb1⟩ : ∃ b, (q4 == 0) = b := ⟨_, rfl⟩
  obtain ⟨b2, hb2⟩ : ∃ b, (((q1.length : Nat) : Int) == 0) = b := ⟨_, rfl⟩
  obtain ⟨b3, hb3⟩ : ∃ b, (q2 == 1) = b := ⟨_, rfl⟩
  obtain ⟨b4, hb4⟩ : ∃ b, (q3 == 2) = b := ⟨_, rfl⟩
  rw [fin b1 b2 b3 b4 hb1 hb2 hb3 hb4] at h
  clear fin HH HQ
  cases b1
  · subst h
    go_wp2
    go_ret
    exact ⟨rfl, below_alloc HB7.out _⟩
  cases b2
  · subst h
    go_wp2
    go_ret
    exact ⟨rfl, below_alloc HB7.out _⟩
  cases b3
  · subst h
    go_wp2
    go_ret
    exact ⟨rfl, below_alloc HB7.out _⟩
  cases b4
  · subst h
    go_wp2
    go_ret
    exact ⟨rfl, below_alloc HB7.out _⟩
  · subst h
    go_wp2
    go_ret
    exact ⟨rfl, below_alloc HB7.out _⟩
end Go.Proofs.YtagkhoeidjlahaaDoor.G
namespace Go.Proofs.YtagkhoeidjlahaaDoor.G.Pure
open Go.Proofs.YtagkhoeidjlahaaDoorW.PrintWords Go.RowKit
set_option linter.unusedVariables false
set_option linter.unusedSimpArgs false
theorem eq_l (a b : List Int) (hl : a.length = b.length) (ha : a.length ≤ M) : ∀ (m i : Nat), a.length - i = m → Ev (fun k => slices_Equal_int_int.l0 k a b a.length i) (decide (a.drop i = b.drop i)) := by
  intro m
  unfold M at ha
  induction m with
  | zero =>
    intro i hi
    refine Ev.step (fun k => by rw [slices_Equal_int_int.l0]) ?_
    refine ev_if (fun h => by omega) fun _ => ev_now ?_
    rw [List.drop_eq_nil_of_le (show a.length ≤ i by omega), List.drop_eq_nil_of_le (show b.length ≤ i by omega)]
    simp
  | succ m ih =>
    intro i hi
    have ha2 : i < a.length := by omega
    have hb2 : i < b.length := by omega
    refine Ev.step (fun k => by rw [slices_Equal_int_int.l0]) ?_
    refine ev_if (fun _ => ?_) fun h => by omega
    refine ev_if (fun _ => ?_) fun h => by omega
    refine ev_if (fun _ => ?_) fun h => by omega
    refine ev_if (fun _ => ?_) fun h => by omega
    rw [rd_at a i ha2, rd_at b i hb2, List.drop_eq_getElem_cons ha2, List.drop_eq_getElem_cons hb2]
    refine ev_if (fun h => ?_) fun h => ev_now ?_
    · rw [h, wr (n := (i : Int) + 1) (by omega)]
      have := ih (i + 1) (by omega)
      simp only [List.cons.injEq, true_and]
      exact_mod_cast this
    · exact (decide_eq_false fun e => h (List.cons.inj e).1).symm
theorem eq_ev (a b : List Int) (ha : a.length ≤ M) : Ev (fun k => slices_Equal_int_int.f k a b) (decide (a = b)) := by
  unfold slices_Equal_int_int.f
  refine ev_if (fun h => ?_) fun h => ev_now ?_
  · have := eq_l a b (by omega) ha a.length 0 rfl
    simpa using this
  · exact (decide_eq_false fun e => h (by rw [e])).symm
theorem clone_ev (l : List Int) (h : l.length ≤ 1000000) : slices_Clone_int_int.f l = some l := by
  unfold slices_Clone_int_int.f; rw [if_pos (by omega)]
def endsB (a : List Int) (k : Nat) : Int × Int := if a.length = k + 1 then (rd a k, rd a k) else (rd a k, wrap64 (rd a k + 1))
theorem cover_eq (a : List Int) (k : Nat) (h : k < a.length) : selection_cover.f (a.drop k) = some (endsB a k) := by
  unfold selection_cover.f endsB
  have hr : rd (a.drop k) 0 = rd a k := by
    have e0 := rd_at (a.drop k) 0 (by rw [List.length_drop]; omega)
    have e1 := rd_at a k h
    rw [e1]
    refine Eq.trans e0 ?_
    simp
  rw [hr, List.length_drop]
  by_cases h1 : a.length = k + 1
  · rw [if_pos (by omega), if_pos (by omega), if_pos h1]
  · rw [if_neg (by omega), if_pos (by omega), if_neg h1]
def finB (a b : List Int) (k : Nat) : List Int × Int × Int × Int := (a.take k, mn (endsB a k).1 (endsB b k).1, mx (endsB a k).2 (endsB b k).2, 0)
def btw : Nat → List Int → List Int → Nat → List Int × Int × Int × Int
  | 0, a, b, k => finB a b k
  | f + 1, a, b, k => if k + 2 < a.length ∧ k + 2 < b.length ∧ rd a k = rd b k ∧ rd a (k + 1 : Nat) = rd b (k + 1 : Nat) then btw f a b (k + 2) else finB a b k
theorem two_at (a : List Int) (k : Nat) (h : k + 2 ≤ a.length) : (a.take (k + 2)).drop k = [rd a k, rd a (k + 1 : Nat)] := by
  rw [rd_at a k (by omega), rd_at a (k + 1) (by omega)]
  rw [List.drop_take, show k + 2 - k = 2 by omega, List.drop_eq_getElem_cons (show k < a.length by omega), List.take_succ_cons, List.drop_eq_getElem_cons (show k + 1 < a.length by omega), List.take_succ_cons, List.take_zero]
theorem pBet_l (a b : List Int) (ha : a.length ≤ 1000000) (hb : b.length ≤ 1000000) : ∀ (f k : Nat), a.length ≤ k + f → k < a.length → k < b.length → Ev (fun n => selection_Between.l0 n a b k) (btw f a b k) := by
  intro f
  have fin : ∀ k : Nat, k < a.length → k < b.length → Ev (fun n => selection_Between.j1 n a b k) (finB a b k) := by
    intro k h1 h2
    refine Ev.step (fun n => by rw [selection_Between.j1]) ?_
    refine ev_if (fun _ => ?_) fun h => by omega
    refine ev_if (fun _ => ?_) fun h => by omega
    rw [Int.toNat_natCast, cover_eq a k h1, cover_eq b k h2]
    refine ev_bind (Ev.now _) ?_
    refine ev_if (fun _ => ?_) fun h => by omega
    refine ev_bind (Ev.now _) ?_
    refine ev_bind (ev_some (show selection_join.f _ _ _ _ = some _ from rfl)) ?_
    rw [clone_ev _ (by rw [List.length_take]; omega)]
    exact ev_bind (Ev.now _) (Ev.now _)
  induction f with
  | zero => intro k h1 h2 h3; omega
  | succ f ih =>
    intro k h1 h2 h3
    refine Ev.step (fun n => by rw [selection_Between.l0]) ?_
    rw [btw, wr (n := (k : Int) + 2) (by omega)]
    refine ev_if (fun h4 => ?_) fun h4 => ?_
    · refine ev_if (fun h5 => ?_) fun h5 => ?_
      · refine ev_if (fun _ => ?_) fun h => by omega
        refine ev_if (fun _ => ?_) fun h => by omega
        refine ev_if (fun _ => ?_) fun h => by omega
        refine ev_if (fun _ => ?_) fun h => by omega
        rw [show ((k : Int) + 2).toNat = k + 2 by omega, Int.toNat_natCast, two_at a k (by omega), two_at b k (by omega)]
        refine ev_bind (eq_ev _ _ (by simp [M])) ?_
        by_cases h6 : rd a k = rd b k ∧ rd a (k + 1 : Nat) = rd b (k + 1 : Nat)
        · rw [if_pos ⟨by omega, by omega, h6.1, h6.2⟩, decide_eq_true (by rw [h6.1, h6.2])]
          refine ev_if (fun _ => ?_) fun h => absurd rfl h
          have := ih (k + 2) (by omega) (by omega) (by omega)
          exact_mod_cast this
        · rw [if_neg (fun h => h6 ⟨h.2.2.1, h.2.2.2⟩), decide_eq_false (fun h => h6 (by simpa using h))]
          refine ev_if (fun h => by cases h) fun _ => fin k h2 h3
      · rw [if_neg (by omega)]; exact fin k h2 h3
    · rw [if_neg (by omega)]; exact fin k h2 h3
def betB (x : S36) (a b : List Int) : List Int × Int × Int × Int :=
  if validB x = true then (if (idxB x a).2 = 0 ∧ (idxB x b).2 = 0 then btw a.length a b 0 else ([], 0, 0, 2)) else ([], 0, 0, 1)
theorem idxF_mem (pos : List Int) : ∀ (l : List (List Int)) (i : Int), (idxF pos l i).2 = 0 → pos ∈ l
  | [], i, h => by simp [idxF] at h
  | q :: l, i, h => by
    rw [idxF] at h
    by_cases hc : cmpL q pos = 0
    · rw [cmpL_zero hc]; simp
    · rw [if_neg hc] at h; exact List.mem_cons_of_mem _ (idxF_mem pos l (i + 1) h)
theorem pos_ne (x : S36) (hv : validB x = true) (a : List Int) (h : (idxB x a).2 = 0) : 0 < a.length := by
  unfold idxB at h
  rw [if_pos hv] at h
  obtain ⟨j, r, e, _⟩ := kids_mem [] 0 x.f3 a (idxF_mem a _ _ h)
  rw [e]; simp
theorem pBet_ev (x : S36) (hx : OkNode x) (hc : cnt x ≤ 100000) (a b : List Int) (ha : a.length ≤ 1000000) (hb : b.length ≤ 1000000) : Ev (fun k => selection_Between.f k x.f0 x.f1 x.f2 x.f3 a b) (betB x a b) := by
  unfold selection_Between.f betB
  refine ev_bind (nValid_ev x hx) ?_
  refine ev_if (fun hv => ?_) fun hv => ev_now (by rw [if_neg hv])
  rw [if_pos hv]
  refine ev_bind (pValid_ev x hx hc a) ?_
  refine ev_if (fun h1 => ?_) fun h1 => ev_now ?_
  · have h1' : (idxB x a).2 = 0 := by simpa using h1
    refine ev_bind (pValid_ev x hx hc b) ?_
    refine ev_if (fun h2 => ?_) fun h2 => ev_now ?_
    · have h2' : (idxB x b).2 = 0 := by simpa using h2
      rw [if_pos ⟨h1', h2'⟩]
      exact pBet_l a b ha hb a.length 0 (by omega) (pos_ne x hv a h1') (pos_ne x hv b h2')
    · rw [if_neg (fun h => h2 (by simp [h.2]))]
  · rw [if_neg (fun h => h1 (by simp [h.1]))]
def nY : S36 := ⟨1, ⟨#[]⟩, 0, awTree⟩
theorem nY_ok : OkNode nY := by
  have leaf : ∀ s : ByteArray, s.size ≤ 100 → OkNode (sxNode s) := fun s h => ok_leaf 2 s (by omega) h
  have row : ∀ s : ByteArray, s.size ≤ 100 → OkNode (rowNode [sxNode s]) := fun s h => by
    refine OkNode.mk _ (okI_small 1 (by omega)) (by unfold OkS; simp [rowNode]; decide) (okI_small 0 (by omega)) (by simp [rowNode]) (fun y hy => ?_)
    simp only [rowNode, List.mem_singleton] at hy
    subst hy; exact leaf s h
  refine OkNode.mk _ (okI_small 1 (by omega)) (by unfold OkS; decide) (okI_small 0 (by omega)) (by decide) (fun y h => ?_)
  simp only [nY, awTree, List.mem_cons, List.mem_nil_iff, or_false] at h
  rcases h with rfl | rfl
  · exact leaf _ (by decide)
  · refine OkNode.mk _ (okI_small 5 (by omega)) (by unfold OkS; decide) (okI_small 0 (by omega)) (by decide) (fun z hz => ?_)
    simp only [List.mem_cons, List.mem_nil_iff, or_false] at hz
    rcases hz with rfl | rfl
    · exact row _ (by decide)
    · exact row _ (by decide)
theorem nY_bet : betB nY [1, 0, 0] [1, 1, 1] = ([], 1, 2, 0) := by decide +kernel
theorem awake11_ev : Ev (fun k => vinculumlaw11_awake.f k) true := by
  unfold vinculumlaw11_awake.f
  have := pBet_ev nY nY_ok (by decide) [1, 0, 0] [1, 1, 1] (by decide) (by decide)
  rw [nY_bet] at this
  exact Ev.bind (f := fun _ r => some (decide (r.2.2.2 = 0) && decide (r.1.length = 0) && decide (r.2.1 = 1) && decide (r.2.2.1 = 2))) this (Ev.now _)
theorem aw11 : Ev (fun k => (vinculumlaw11_awake.f k).bind fun t => (some t)) true := ev_bind awake11_ev (Ev.now _)
end Go.Proofs.YtagkhoeidjlahaaDoor.G.Pure
namespace Go.Proofs.YtagkhoeidjlahaaDoor.G
open Go.RowKit Go.Proofs.YtagkhoeidjlahaaDoorW.PrintWords Go.Proofs.YtagkhoeidjlahaaDoorW.PrintLast Go.Proofs.YtagkhoeidjlahaaDoorW.PrintMore
attribute [local go_sem] max2_int min2_int max_two min_two max_three min_three max_four min_four
set_option linter.unusedVariables false
set_option linter.unusedSimpArgs false
def selection_Contains.j0 : Nat → List Int → Int → Bool → List Int → Int → Int → Option (Bool)
  | 0, _, _, _, _, _, _ => none
  | k + 1, x1, x5, x30, x805000, x805001, x805002 => if x30 = true then (some false) else (if (x1.length : Int) = (wrap64 (x5 + 1)) then (if 0 ≤ x5 then (if x5 < (x1.length : Int) then (some (decide ((rd x1 x5) ≤ x805002))) else (none)) else (none)) else (if 0 ≤ x5 then (if x5 < (x1.length : Int) then (some (decide ((rd x1 x5) < x805002))) else (none)) else (none)))
def selection_Contains.f (k : Nat) (l0_0 : List Int) (a0_1 : Int) (a0_2 : Int) (l1 : List Int) : Option (Bool) := if (l1.length : Int) ≤ (l0_0.length : Int) then (selection_Contains.j0 k l1 (l0_0.length : Int) true l0_0 a0_1 a0_2) else (if 0 ≤ (l0_0.length : Int) then (if (l0_0.length : Int) ≤ (l1.length : Int) then ((slices_Equal_int_int.f k (l1.take ((l0_0.length : Int) : Int).toNat) l0_0).bind fun t806 => (if t806 = true then (if (l0_0.length : Int) < (l1.length : Int) then (selection_Contains.j0 k l1 (l0_0.length : Int) (decide ((rd l1 (l0_0.length : Int)) < a0_1)) l0_0 a0_1 a0_2) else (none)) else (selection_Contains.j0 k l1 (l0_0.length : Int) true l0_0 a0_1 a0_2))) else (none)) else (none))
set_option maxHeartbeats 8000000 in
set_option maxRecDepth 100000 in
theorem selection_Contains.calls (k : Nat) (A0_0 : Option Addr) (c0_0 : Nat) (l0_0 : List Int) (a0_1 : Int) (a0_2 : Int) (A1 : Option Addr) (c1 : Nat) (l1 : List Int) (r : Bool) (w : World) (hr0_0 : Kd.C (Kd.int .i64) w A0_0 l0_0.length l0_0) (hc0_0 : l0_0.length ≤ c0_0) (hr1 : Kd.C (Kd.int .i64) w A1 l1.length l1) (hc1 : l1.length ≤ c1) (h : selection_Contains.f k l0_0 a0_1 a0_2 l1 = some r) :
    Calls Tryd.prog 52 #[.agg #[.slice A0_0 l0_0.length c0_0, .int .i64 a0_1, .int .i64 a0_2], .slice A1 l1.length c1] w fun e w' => e = .returned (.bool r) ∧ Below w.heap.size w w' := by
  have hu54 := Tryd.underlying54
  have HR0_0 := Aside0.mk hr0_0
  have HC0_0 := Aside0.mk hc0_0
  clear hr0_0 hc0_0
  have HR1 := Aside0.mk hr1
  have HC1 := Aside0.mk hc1
  clear hr1 hc1
  have HB := Aside0.mk (Below.refl w.heap.size w)
  have H : (if (l1.length : Int) ≤ (l0_0.length : Int) then (selection_Contains.j0 k l1 (l0_0.length : Int) true l0_0 a0_1 a0_2) else (if 0 ≤ (l0_0.length : Int) then (if (l0_0.length : Int) ≤ (l1.length : Int) then ((slices_Equal_int_int.f k (l1.take ((l0_0.length : Int) : Int).toNat) l0_0).bind fun t806 => (if t806 = true then (if (l0_0.length : Int) < (l1.length : Int) then (selection_Contains.j0 k l1 (l0_0.length : Int) (decide ((rd l1 (l0_0.length : Int)) < a0_1)) l0_0 a0_1 a0_2) else (none)) else (selection_Contains.j0 k l1 (l0_0.length : Int) true l0_0 a0_1 a0_2))) else (none)) else (none))) = some r := h
  clear h
  have HC3 := Aside0.mk H
  clear H
  go_enter Tryd.func52, Tryd.ntmps52
  go_upto_region 2 with (first | ((with_reducible refine gate_dst (N := 2) rfl ?_); refine box_event ?hg (N := 2) ?hd (cs := #[.slice A0_0 l0_0.length c0_0, .int .i64 a0_1, .int .i64 a0_2]) (t := 54) ?hr ?_; (case hd => rfl); (case hg => rfl); (case hr => first | (go_simp; done) | (go_simp; rfl)); intro gb804 hg w4 hbox hb; have n0_ := Aside0.mk (below_step (by repeat (first | (with_reducible first | exact HB.out | apply below_alloc | apply pw_below_drewN | apply below_drew1) | exact HB.out)) hb); have n1_ := Aside0.mk (hbox); have n2_ := Aside0.mk ((by rw [hg]; exact (below_size (by repeat (first | (with_reducible first | exact HB.out | apply below_alloc | apply pw_below_drewN | apply below_drew1) | exact HB.out))) : w.heap.size ≤ gb804)); have n3_ := Aside0.mk ((by rw [hg]; exact (below_size (by repeat (first | (with_reducible first | exact HB.out | apply below_alloc | apply pw_below_drewN | apply below_drew1) | exact HB.out))) : w.heap.size ≤ gb804)); clear HB; have HB := n0_; have BK804 := n1_; have GW804 := n2_; have GE804 := n3_; clear n0_ n1_ n2_ n3_; clear hb hbox hg; have hcz5_0 : w4.cell? ⟨gb804, 0, none⟩ = some (.slice A0_0 l0_0.length c0_0) := (blk_cell BK804.out 0).trans rfl; have hcz5_1 : w4.cell? ⟨gb804, 1, none⟩ = some (.int .i64 a0_1) := (blk_cell BK804.out 1).trans rfl; have hcz5_2 : w4.cell? ⟨gb804, 2, none⟩ = some (.int .i64 a0_2) := (blk_cell BK804.out 2).trans rfl; have hfz5_0 := blk_frozen BK804.out 0; have hfz5_1 := blk_frozen BK804.out 1; have hfz5_2 := blk_frozen BK804.out 2))
  repeat (go_quiet (first | ((with_reducible refine gate_dst (N := 2) rfl ?_); refine box_event ?hg (N := 2) ?hd (cs := #[.slice A0_0 l0_0.length c0_0, .int .i64 a0_1, .int .i64 a0_2]) (t := 54) ?hr ?_; (case hd => rfl); (case hg => rfl); (case hr => first | (go_simp; done) | (go_simp; rfl)); intro gb804 hg w4 hbox hb; have n0_ := Aside0.mk (below_step (by repeat (first | (with_reducible first | exact HB.out | apply below_alloc | apply pw_below_drewN | apply below_drew1) | exact HB.out)) hb); have n1_ := Aside0.mk (hbox); have n2_ := Aside0.mk ((by rw [hg]; exact (below_size (by repeat (first | (with_reducible first | exact HB.out | apply below_alloc | apply pw_below_drewN | apply below_drew1) | exact HB.out))) : w.heap.size ≤ gb804)); have n3_ := Aside0.mk ((by rw [hg]; exact (below_size (by repeat (first | (with_reducible first | exact HB.out | apply below_alloc | apply pw_below_drewN | apply below_drew1) | exact HB.out))) : w.heap.size ≤ gb804)); clear HB; have HB := n0_; have BK804 := n1_; have GW804 := n2_; have GE804 := n3_; clear n0_ n1_ n2_ n3_; clear hb hbox hg; have hcz5_0 : w4.cell? ⟨gb804, 0, none⟩ = some (.slice A0_0 l0_0.length c0_0) := (blk_cell BK804.out 0).trans rfl; have hcz5_1 : w4.cell? ⟨gb804, 1, none⟩ = some (.int .i64 a0_1) := (blk_cell BK804.out 1).trans rfl; have hcz5_2 : w4.cell? ⟨gb804, 2, none⟩ = some (.int .i64 a0_2) := (blk_cell BK804.out 2).trans rfl; have hfz5_0 := blk_frozen BK804.out 0; have hfz5_1 := blk_frozen BK804.out 1; have hfz5_2 := blk_frozen BK804.out 2)); go_upto_region 2 with (first | ((with_reducible refine gate_dst (N := 2) rfl ?_); refine box_event ?hg (N := 2) ?hd (cs := #[.slice A0_0 l0_0.length c0_0, .int .i64 a0_1, .int .i64 a0_2]) (t := 54) ?hr ?_; (case hd => rfl); (case hg => rfl); (case hr => first | (go_simp; done) | (go_simp; rfl)); intro gb804 hg w4 hbox hb; have n0_ := Aside0.mk (below_step (by repeat (first | (with_reducible first | exact HB.out | apply below_alloc | apply pw_below_drewN | apply below_drew1) | exact HB.out)) hb); have n1_ := Aside0.mk (hbox); have n2_ := Aside0.mk ((by rw [hg]; exact (below_size (by repeat (first | (with_reducible first | exact HB.out | apply below_alloc | apply pw_below_drewN | apply below_drew1) | exact HB.out))) : w.heap.size ≤ gb804)); have n3_ := Aside0.mk ((by rw [hg]; exact (below_size (by repeat (first | (with_reducible first | exact HB.out | apply below_alloc | apply pw_below_drewN | apply below_drew1) | exact HB.out))) : w.heap.size ≤ gb804)); clear HB; have HB := n0_; have BK804 := n1_; have GW804 := n2_; have GE804 := n3_; clear n0_ n1_ n2_ n3_; clear hb hbox hg; have hcz5_0 : w4.cell? ⟨gb804, 0, none⟩ = some (.slice A0_0 l0_0.length c0_0) := (blk_cell BK804.out 0).trans rfl; have hcz5_1 : w4.cell? ⟨gb804, 1, none⟩ = some (.int .i64 a0_1) := (blk_cell BK804.out 1).trans rfl; have hcz5_2 : w4.cell? ⟨gb804, 2, none⟩ = some (.int .i64 a0_2) := (blk_cell BK804.out 2).trans rfl; have hfz5_0 := blk_frozen BK804.out 0; have hfz5_1 := blk_frozen BK804.out 1; have hfz5_2 := blk_frozen BK804.out 2)))
  (try simp only [Act.put, List.setIfInBounds_toArray, List.set_cons_zero, List.set_cons_succ])
  go_cut [30] (fun v30 wc => ∃ (kq : Nat) (x30_2 : Bool), v30 = .bool x30_2 ∧ Aside0 (selection_Contains.j0 kq l1 (l0_0.length : Int) x30_2 l0_0 a0_1 a0_2 = some r) ∧ Aside0 (kq ≤ k) ∧ Aside0 (wc.heap[gb804]? = some (.cells #[(.slice A0_0 l0_0.length c0_0), .int .i64 a0_1, .int .i64 a0_2] 54 (0, 0))) ∧ Aside0 (Below w.heap.size w wc))
  case first =>
    have H := HC3.out
    clear HC3
    by_cases c6 : (l1.length : Int) ≤ (l0_0.length : Int)
    · rw [if_pos c6] at H
      have c6b0 : decide ((l1.length : Int) ≤ (l0_0.length : Int)) = true := decide_eq_true c6
      have c6b1 : decide (l1.length ≤ l0_0.length) = true := decide_eq_true (Int.ofNat_le.mp c6)
      clear c6
      (first | rw [c6b0] | (simp only [i64_w, i32_w]; rw [c6b0]) | skip)
      have H' := Aside0.mk H
      clear H
      go_wp2
      repeat (go_quiet (fail); try go_wp2)
      go_meet
      case rel => exact ⟨_, (true), (by first | rfl | (simp; done) | (simp [*]; done)), H', ⟨by first | omega | exact Nat.le_refl _⟩, ⟨by (with_reducible repeat (first | refine blk_drewN ?_ _ | refine blk_drew ?_ | refine blk_alloc ?_ _)); exact BK804.out⟩, ⟨by repeat (first | (with_reducible first | exact HB.out | apply below_alloc | apply pw_below_drewN | apply below_drew1 | refine below_set ?_ GE804.out) | exact HB.out)⟩⟩
    · rw [if_neg c6] at H
      have c6b0 : decide ((l1.length : Int) ≤ (l0_0.length : Int)) = false := decide_eq_false c6
      have c6b1 : decide (l1.length ≤ l0_0.length) = false := decide_eq_false (fun h => c6 (Int.ofNat_le.mpr h))
      clear c6
      (first | rw [c6b0] | (simp only [i64_w, i32_w]; rw [c6b0]) | skip)
      by_cases c7 : 0 ≤ (l0_0.length : Int)
      · rw [if_pos c7] at H
        have c7b0 := eq_true c7
        have c7b1 : decide (0 ≤ (l0_0.length : Int)) = true := decide_eq_true c7
        clear c7
        by_cases c8 : (l0_0.length : Int) ≤ (l1.length : Int)
        · rw [if_pos c8] at H
          have c8b0 := eq_true c8
          have c8b1 : decide ((l0_0.length : Int) ≤ (l1.length : Int)) = true := decide_eq_true c8
          clear c8
          replace H := Option.bind_eq_some_iff.mp H
          obtain ⟨t806, A90, H⟩ := H
          replace H : (if t806 = true then (if (l0_0.length : Int) < (l1.length : Int) then (selection_Contains.j0 k l1 (l0_0.length : Int) (decide ((rd l1 (l0_0.length : Int)) < a0_1)) l0_0 a0_1 a0_2) else (none)) else (selection_Contains.j0 k l1 (l0_0.length : Int) true l0_0 a0_1 a0_2)) = some r := H
          have A9 := Aside0.mk A90
          clear A90
          by_cases c10 : t806 = true
          · subst c10
            have H1 : (if (l0_0.length : Int) < (l1.length : Int) then (selection_Contains.j0 k l1 (l0_0.length : Int) (decide ((rd l1 (l0_0.length : Int)) < a0_1)) l0_0 a0_1 a0_2) else (none)) = some r := by rw [if_pos rfl] at H; exact H
            clear H
            have H := H1
            clear H1
            by_cases c11 : (l0_0.length : Int) < (l1.length : Int)
            · rw [if_pos c11] at H
              have c11b0 : decide ((l0_0.length : Int) < (l1.length : Int)) = true := decide_eq_true c11
              have c11b1 : decide (l0_0.length < l1.length) = true := decide_eq_true (Int.ofNat_lt.mp c11)
              clear c11
              have H' := Aside0.mk H
              clear H
              obtain ⟨i012, hi012, _, hsz12, _⟩ := info_parts info3
              obtain ⟨hcut12, hA12, hC12⟩ := print_take_of (P := Tryd.prog) (Value.int .i64) 0 26 3 .i64 Tryd.underlying26 hi012 hsz12 A1 c1 l1 (l0_0.length : Int) (of_decide_eq_true (by first | (with_reducible assumption) | assumption)) (of_decide_eq_true (by first | (with_reducible assumption) | assumption)) HC1.out
              have HR805 := Aside0.mk (Kd.C_of_reads (h1 := fun _ => rfl) (hA12 _ (Kd.reads_of_C HR1.out)))
              have HC805 := Aside0.mk hC12
              clear hA12 hC12 hi012 hsz12
              have hcz13_0 : w4.cell? ⟨gb804, 0, none⟩ = some (.slice A0_0 l0_0.length c0_0) := (blk_cell BK804.out 0).trans rfl
              have hcz13_1 : w4.cell? ⟨gb804, 1, none⟩ = some (.int .i64 a0_1) := (blk_cell BK804.out 1).trans rfl
              have hcz13_2 : w4.cell? ⟨gb804, 2, none⟩ = some (.int .i64 a0_2) := (blk_cell BK804.out 2).trans rfl
              have hfz13_0 := blk_frozen BK804.out 0
              have hfz13_1 := blk_frozen BK804.out 1
              have hfz13_2 := blk_frozen BK804.out 2
              have p807 : 0 ≤ ((l0_0.length : Int) : Int) := of_decide_eq_true (by first | (with_reducible assumption) | assumption)
              have q807 : (l0_0.length : Int) < (l1.length : Int) := of_decide_eq_true (by first | (with_reducible assumption) | assumption)
              obtain ⟨ad807, e807, hx807_0⟩ := Kd.at_int HR1.out (l0_0.length : Int) p807 q807
              cases e807
              replace hx807_0 := (HB.out.cell (World.block_lt_of_cell? w _ hx807_0)).trans hx807_0
              (try simp only [Go.IntWalk.toNatUp] at hx807_0)
              replace p807 := eq_true p807
              replace q807 := eq_true q807
              go_wp2_with (first | (go_at_call 78; (first | (with_reducible refine (slices_Equal_int_int.calls k _ _ (l1.take ((l0_0.length : Int) : Int).toNat) _ _ l0_0 true _ ?side1 ?side2 ?side3 ?side4 A9.out).mono ?_) | (refine calls_args (by simp only [List.length_take, List.length_drop, Int.toNat_natCast]; rfl) (Calls.mono (slices_Equal_int_int.calls k _ _ (l1.take ((l0_0.length : Int) : Int).toNat) _ _ l0_0 true _ ?side1 ?side2 ?side3 ?side4 A9.out) ?_))); (case side1 => repeat (first | exact (Kd.C_below HR805.out HB.out) | (with_reducible refine Kd.C_alloc ?_ _) | (with_reducible refine Kd.C_drewN ?_ _) | (with_reducible refine Kd.C_drew ?_))); (case side2 => exact HC805.out); (case side3 => repeat (first | exact (Kd.C_below HR0_0.out HB.out) | (with_reducible refine Kd.C_alloc ?_ _) | (with_reducible refine Kd.C_drewN ?_ _) | (with_reducible refine Kd.C_drew ?_))); (case side4 => exact HC0_0.out); rintro e w' ⟨rfl, ⟨nd, rfl⟩⟩; (try first | exact ⟨rfl, _, World.drewN_drewN _ _ _⟩ | exact ⟨rfl, _, Eq.trans (World.drewN_drewN _ _ _) (congrArg (World.drewN _) (Nat.add_assoc _ _ _))⟩)))
              repeat (go_quiet (first | (go_at_call 78; (first | (with_reducible refine (slices_Equal_int_int.calls k _ _ (l1.take ((l0_0.length : Int) : Int).toNat) _ _ l0_0 true _ ?side1 ?side2 ?side3 ?side4 A9.out).mono ?_) | (refine calls_args (by simp only [List.length_take, List.length_drop, Int.toNat_natCast]; rfl) (Calls.mono (slices_Equal_int_int.calls k _ _ (l1.take ((l0_0.length : Int) : Int).toNat) _ _ l0_0 true _ ?side1 ?side2 ?side3 ?side4 A9.out) ?_))); (case side1 => repeat (first | exact (Kd.C_below HR805.out HB.out) | (with_reducible refine Kd.C_alloc ?_ _) | (with_reducible refine Kd.C_drewN ?_ _) | (with_reducible refine Kd.C_drew ?_))); (case side2 => exact HC805.out); (case side3 => repeat (first | exact (Kd.C_below HR0_0.out HB.out) | (with_reducible refine Kd.C_alloc ?_ _) | (with_reducible refine Kd.C_drewN ?_ _) | (with_reducible refine Kd.C_drew ?_))); (case side4 => exact HC0_0.out); rintro e w' ⟨rfl, ⟨nd, rfl⟩⟩; (try first | exact ⟨rfl, _, World.drewN_drewN _ _ _⟩ | exact ⟨rfl, _, Eq.trans (World.drewN_drewN _ _ _) (congrArg (World.drewN _) (Nat.add_assoc _ _ _))⟩))); try go_wp2_with (first | (go_at_call 78; (first | (with_reducible refine (slices_Equal_int_int.calls k _ _ (l1.take ((l0_0.length : Int) : Int).toNat) _ _ l0_0 true _ ?side1 ?side2 ?side3 ?side4 A9.out).mono ?_) | (refine calls_args (by simp only [List.length_take, List.length_drop, Int.toNat_natCast]; rfl) (Calls.mono (slices_Equal_int_int.calls k _ _ (l1.take ((l0_0.length : Int) : Int).toNat) _ _ l0_0 true _ ?side1 ?side2 ?side3 ?side4 A9.out) ?_))); (case side1 => repeat (first | exact (Kd.C_below HR805.out HB.out) | (with_reducible refine Kd.C_alloc ?_ _) | (with_reducible refine Kd.C_drewN ?_ _) | (with_reducible refine Kd.C_drew ?_))); (case side2 => exact HC805.out); (case side3 => repeat (first | exact (Kd.C_below HR0_0.out HB.out) | (with_reducible refine Kd.C_alloc ?_ _) | (with_reducible refine Kd.C_drewN ?_ _) | (with_reducible refine Kd.C_drew ?_))); (case side4 => exact HC0_0.out); rintro e w' ⟨rfl, ⟨nd, rfl⟩⟩; (try first | exact ⟨rfl, _, World.drewN_drewN _ _ _⟩ | exact ⟨rfl, _, Eq.trans (World.drewN_drewN _ _ _) (congrArg (World.drewN _) (Nat.add_assoc _ _ _))⟩))))
              go_meet
              case rel => exact ⟨_, (decide ((rd l1 (l0_0.length : Int)) < a0_1)), (by first | rfl | (simp; done) | (simp [*]; done)), H', ⟨by first | omega | exact Nat.le_refl _⟩, ⟨by (with_reducible repeat (first | refine blk_drewN ?_ _ | refine blk_drew ?_ | refine blk_alloc ?_ _)); exact BK804.out⟩, ⟨by repeat (first | (with_reducible first | exact HB.out | apply below_alloc | apply pw_below_drewN | apply below_drew1 | refine below_set ?_ GE804.out) | exact HB.out)⟩⟩
            · rw [if_neg c11] at H
              exact absurd H (by simp)
          · replace c10 := Bool.eq_false_iff.mpr c10
            subst c10
            have H1 : (selection_Contains.j0 k l1 (l0_0.length : Int) true l0_0 a0_1 a0_2) = some r := by rw [if_neg (show ¬ (false = true) by decide)] at H; exact H
            clear H
            have H := H1
            clear H1
            have H' := Aside0.mk H
            clear H
            obtain ⟨i014, hi014, _, hsz14, _⟩ := info_parts info3
            obtain ⟨hcut14, hA14, hC14⟩ := print_take_of (P := Tryd.prog) (Value.int .i64) 0 26 3 .i64 Tryd.underlying26 hi014 hsz14 A1 c1 l1 (l0_0.length : Int) (of_decide_eq_true (by first | (with_reducible assumption) | assumption)) (of_decide_eq_true (by first | (with_reducible assumption) | assumption)) HC1.out
            have HR805 := Aside0.mk (Kd.C_of_reads (h1 := fun _ => rfl) (hA14 _ (Kd.reads_of_C HR1.out)))
            have HC805 := Aside0.mk hC14
            clear hA14 hC14 hi014 hsz14
            have hcz15_0 : w4.cell? ⟨gb804, 0, none⟩ = some (.slice A0_0 l0_0.length c0_0) := (blk_cell BK804.out 0).trans rfl
            have hcz15_1 : w4.cell? ⟨gb804, 1, none⟩ = some (.int .i64 a0_1) := (blk_cell BK804.out 1).trans rfl
            have hcz15_2 : w4.cell? ⟨gb804, 2, none⟩ = some (.int .i64 a0_2) := (blk_cell BK804.out 2).trans rfl
            have hfz15_0 := blk_frozen BK804.out 0
            have hfz15_1 := blk_frozen BK804.out 1
            have hfz15_2 := blk_frozen BK804.out 2
            go_wp2_with (first | (go_at_call 78; (first | (with_reducible refine (slices_Equal_int_int.calls k _ _ (l1.take ((l0_0.length : Int) : Int).toNat) _ _ l0_0 false _ ?side1 ?side2 ?side3 ?side4 A9.out).mono ?_) | (refine calls_args (by simp only [List.length_take, List.length_drop, Int.toNat_natCast]; rfl) (Calls.mono (slices_Equal_int_int.calls k _ _ (l1.take ((l0_0.length : Int) : Int).toNat) _ _ l0_0 false _ ?side1 ?side2 ?side3 ?side4 A9.out) ?_))); (case side1 => repeat (first | exact (Kd.C_below HR805.out HB.out) | (with_reducible refine Kd.C_alloc ?_ _) | (with_reducible refine Kd.C_drewN ?_ _) | (with_reducible refine Kd.C_drew ?_))); (case side2 => exact HC805.out); (case side3 => repeat (first | exact (Kd.C_below HR0_0.out HB.out) | (with_reducible refine Kd.C_alloc ?_ _) | (with_reducible refine Kd.C_drewN ?_ _) | (with_reducible refine Kd.C_drew ?_))); (case side4 => exact HC0_0.out); rintro e w' ⟨rfl, ⟨nd, rfl⟩⟩; (try first | exact ⟨rfl, _, World.drewN_drewN _ _ _⟩ | exact ⟨rfl, _, Eq.trans (World.drewN_drewN _ _ _) (congrArg (World.drewN _) (Nat.add_assoc _ _ _))⟩)))
            repeat (go_quiet (first | (go_at_call 78; (first | (with_reducible refine (slices_Equal_int_int.calls k _ _ (l1.take ((l0_0.length : Int) : Int).toNat) _ _ l0_0 false _ ?side1 ?side2 ?side3 ?side4 A9.out).mono ?_) | (refine calls_args (by simp only [List.length_take, List.length_drop, Int.toNat_natCast]; rfl) (Calls.mono (slices_Equal_int_int.calls k _ _ (l1.take ((l0_0.length : Int) : Int).toNat) _ _ l0_0 false _ ?side1 ?side2 ?side3 ?side4 A9.out) ?_))); (case side1 => repeat (first | exact (Kd.C_below HR805.out HB.out) | (with_reducible refine Kd.C_alloc ?_ _) | (with_reducible refine Kd.C_drewN ?_ _) | (with_reducible refine Kd.C_drew ?_))); (case side2 => exact HC805.out); (case side3 => repeat (first | exact (Kd.C_below HR0_0.out HB.out) | (with_reducible refine Kd.C_alloc ?_ _) | (with_reducible refine Kd.C_drewN ?_ _) | (with_reducible refine Kd.C_drew ?_))); (case side4 => exact HC0_0.out); rintro e w' ⟨rfl, ⟨nd, rfl⟩⟩; (try first | exact ⟨rfl, _, World.drewN_drewN _ _ _⟩ | exact ⟨rfl, _, Eq.trans (World.drewN_drewN _ _ _) (congrArg (World.drewN _) (Nat.add_assoc _ _ _))⟩))); try go_wp2_with (first | (go_at_call 78; (first | (with_reducible refine (slices_Equal_int_int.calls k _ _ (l1.take ((l0_0.length : Int) : Int).toNat) _ _ l0_0 false _ ?side1 ?side2 ?side3 ?side4 A9.out).mono ?_) | (refine calls_args (by simp only [List.length_take, List.length_drop, Int.toNat_natCast]; rfl) (Calls.mono (slices_Equal_int_int.calls k _ _ (l1.take ((l0_0.length : Int) : Int).toNat) _ _ l0_0 false _ ?side1 ?side2 ?side3 ?side4 A9.out) ?_))); (case side1 => repeat (first | exact (Kd.C_below HR805.out HB.out) | (with_reducible refine Kd.C_alloc ?_ _) | (with_reducible refine Kd.C_drewN ?_ _) | (with_reducible refine Kd.C_drew ?_))); (case side2 => exact HC805.out); (case side3 => repeat (first | exact (Kd.C_below HR0_0.out HB.out) | (with_reducible refine Kd.C_alloc ?_ _) | (with_reducible refine Kd.C_drewN ?_ _) | (with_reducible refine Kd.C_drew ?_))); (case side4 => exact HC0_0.out); rintro e w' ⟨rfl, ⟨nd, rfl⟩⟩; (try first | exact ⟨rfl, _, World.drewN_drewN _ _ _⟩ | exact ⟨rfl, _, Eq.trans (World.drewN_drewN _ _ _) (congrArg (World.drewN _) (Nat.add_assoc _ _ _))⟩))))
            go_meet
            case rel => exact ⟨_, (true), (by first | rfl | (simp; done) | (simp [*]; done)), H', ⟨by first | omega | exact Nat.le_refl _⟩, ⟨by (with_reducible repeat (first | refine blk_drewN ?_ _ | refine blk_drew ?_ | refine blk_alloc ?_ _)); exact BK804.out⟩, ⟨by repeat (first | (with_reducible first | exact HB.out | apply below_alloc | apply pw_below_drewN | apply below_drew1 | refine below_set ?_ GE804.out) | exact HB.out)⟩⟩
        · rw [if_neg c8] at H
          exact absurd H (by simp)
      · rw [if_neg c7] at H
        exact absurd H (by simp)
  case rest =>
    clear HC3
    try clear c1
    try clear p2
    try clear c5
    try clear c6
    try clear c6b0
    try clear c6b1
    try clear c7
    try clear c7b0
    try clear c7b1
    try clear c8
    try clear c8b0
    try clear c8b1
    try clear p8
    try clear q8
    try clear hx8
    try clear c10
    try clear c11
    try clear c11b0
    try clear c11b1
    try clear hcz13_0
    try clear hcz13_1
    try clear hcz13_2
    try clear hcz15_0
    try clear hcz15_1
    try clear hcz15_2
    try clear hcz5_0
    try clear hcz5_1
    try clear hcz5_2
    try clear hfz13_0
    try clear hfz13_1
    try clear hfz13_2
    try clear hfz15_0
    try clear hfz15_1
    try clear hfz15_2
    try clear hfz5_0
    try clear hfz5_1
    try clear hfz5_2
    try clear hx807_0
    try clear p807
    try clear q807
    obtain ⟨kq, x30_2, rfl, HA, HJ2, BK804, HB⟩ := hcut
    cases kq with
    | zero => exact absurd HA.out (by simp [selection_Contains.j0])
    | succ kj2 =>
      have H := HA.out
      clear HA
      simp only [selection_Contains.j0] at H
      by_cases c16 : x30_2 = true
      · subst c16
        have H1 : (some false) = some r := by rw [if_pos rfl] at H; exact H
        clear H
        have H := H1
        clear H1
        obtain rfl := Option.some.inj H
        go_wp2
        repeat (go_quiet (fail); try go_wp2)
        go_ret
        exact ⟨by first | rfl | (simp [errW_none, errW_some] <;> rfl) | (simp [*, errW_none, errW_some] <;> rfl), by repeat (first | (with_reducible first | exact HB.out | apply below_alloc | apply pw_below_drewN | apply below_drew1 | refine below_set ?_ GE804.out) | exact HB.out)⟩
      · replace c16 := Bool.eq_false_iff.mpr c16
        subst c16
        have H1 : (if (l1.length : Int) = (wrap64 ((l0_0.length : Int) + 1)) then (if 0 ≤ (l0_0.length : Int) then (if (l0_0.length : Int) < (l1.length : Int) then (some (decide ((rd l1 (l0_0.length : Int)) ≤ a0_2))) else (none)) else (none)) else (if 0 ≤ (l0_0.length : Int) then (if (l0_0.length : Int) < (l1.length : Int) then (some (decide ((rd l1 (l0_0.length : Int)) < a0_2))) else (none)) else (none))) = some r := by rw [if_neg (show ¬ (false = true) by decide)] at H; exact H
        clear H
        have H := H1
        clear H1
        by_cases c17 : (l1.length : Int) = (wrap64 ((l0_0.length : Int) + 1))
        · rw [if_pos c17] at H
          have c17b0 : ((l1.length : Int) == (wrap64 ((l0_0.length : Int) + 1))) = true := beq_iff_eq.mpr c17
          have c17b1 : ((l1.length : Int) != (wrap64 ((l0_0.length : Int) + 1))) = false := bne_eq_false_iff_eq.mpr c17
          clear c17
          by_cases c18 : 0 ≤ (l0_0.length : Int)
          · rw [if_pos c18] at H
            have c18b0 : decide (0 ≤ (l0_0.length : Int)) = true := decide_eq_true c18
            have c18b1 : decide (0 ≤ l0_0.length) = true := decide_eq_true (by omega)
            clear c18
            by_cases c19 : (l0_0.length : Int) < (l1.length : Int)
            · rw [if_pos c19] at H
              have c19b0 : decide ((l0_0.length : Int) < (l1.length : Int)) = true := decide_eq_true c19
              have c19b1 : decide (l0_0.length < l1.length) = true := decide_eq_true (Int.ofNat_lt.mp c19)
              clear c19
              obtain rfl := Option.some.inj H
              have p808 : 0 ≤ ((l0_0.length : Int) : Int) := of_decide_eq_true (by first | (with_reducible assumption) | assumption)
              have q808 : (l0_0.length : Int) < (l1.length : Int) := of_decide_eq_true (by first | (with_reducible assumption) | assumption)
              obtain ⟨ad808, e808, hx808_0⟩ := Kd.at_int HR1.out (l0_0.length : Int) p808 q808
              cases e808
              replace hx808_0 := (HB.out.cell (World.block_lt_of_cell? w _ hx808_0)).trans hx808_0
              (try simp only [Go.IntWalk.toNatUp] at hx808_0)
              replace p808 := eq_true p808
              replace q808 := eq_true q808
              have hcz20_0 : wc.cell? ⟨gb804, 0, none⟩ = some (.slice A0_0 l0_0.length c0_0) := (blk_cell BK804.out 0).trans rfl
              have hcz20_1 : wc.cell? ⟨gb804, 1, none⟩ = some (.int .i64 a0_1) := (blk_cell BK804.out 1).trans rfl
              have hcz20_2 : wc.cell? ⟨gb804, 2, none⟩ = some (.int .i64 a0_2) := (blk_cell BK804.out 2).trans rfl
              have hfz20_0 := blk_frozen BK804.out 0
              have hfz20_1 := blk_frozen BK804.out 1
              have hfz20_2 := blk_frozen BK804.out 2
              go_wp2
              repeat (go_quiet (fail); try go_wp2)
              go_ret
              exact ⟨by first | rfl | (simp [errW_none, errW_some] <;> rfl) | (simp [*, errW_none, errW_some] <;> rfl), by repeat (first | (with_reducible first | exact HB.out | apply below_alloc | apply pw_below_drewN | apply below_drew1 | refine below_set ?_ GE804.out) | exact HB.out)⟩
            · rw [if_neg c19] at H
              exact absurd H (by simp)
          · rw [if_neg c18] at H
            exact absurd H (by simp)
        · rw [if_neg c17] at H
          have c17b0 : ((l1.length : Int) == (wrap64 ((l0_0.length : Int) + 1))) = false := beq_eq_false_iff_ne.mpr c17
          have c17b1 : ((l1.length : Int) != (wrap64 ((l0_0.length : Int) + 1))) = true := bne_iff_ne.mpr c17
          by_cases c21 : 0 ≤ (l0_0.length : Int)
          · rw [if_pos c21] at H
            have c21b0 : decide (0 ≤ (l0_0.length : Int)) = true := decide_eq_true c21
            have c21b1 : decide (0 ≤ l0_0.length) = true := decide_eq_true (by omega)
            clear c21
            by_cases c22 : (l0_0.length : Int) < (l1.length : Int)
            · rw [if_pos c22] at H
              have c22b0 : decide ((l0_0.length : Int) < (l1.length : Int)) = true := decide_eq_true c22
              have c22b1 : decide (l0_0.length < l1.length) = true := decide_eq_true (Int.ofNat_lt.mp c22)
              clear c22
              obtain rfl := Option.some.inj H
              have p809 : 0 ≤ ((l0_0.length : Int) : Int) := of_decide_eq_true (by first | (with_reducible assumption) | assumption)
              have q809 : (l0_0.length : Int) < (l1.length : Int) := of_decide_eq_true (by first | (with_reducible assumption) | assumption)
              obtain ⟨ad809, e809, hx809_0⟩ := Kd.at_int HR1.out (l0_0.length : Int) p809 q809
              cases e809
              replace hx809_0 := (HB.out.cell (World.block_lt_of_cell? w _ hx809_0)).trans hx809_0
              (try simp only [Go.IntWalk.toNatUp] at hx809_0)
              replace p809 := eq_true p809
              replace q809 := eq_true q809
              have hcz23_0 : wc.cell? ⟨gb804, 0, none⟩ = some (.slice A0_0 l0_0.length c0_0) := (blk_cell BK804.out 0).trans rfl
              have hcz23_1 : wc.cell? ⟨gb804, 1, none⟩ = some (.int .i64 a0_1) := (blk_cell BK804.out 1).trans rfl
              have hcz23_2 : wc.cell? ⟨gb804, 2, none⟩ = some (.int .i64 a0_2) := (blk_cell BK804.out 2).trans rfl
              have hfz23_0 := blk_frozen BK804.out 0
              have hfz23_1 := blk_frozen BK804.out 1
              have hfz23_2 := blk_frozen BK804.out 2
              go_wp2
              repeat (go_quiet (fail); try go_wp2)
              go_ret
              exact ⟨by first | rfl | (simp [errW_none, errW_some] <;> rfl) | (simp [*, errW_none, errW_some] <;> rfl), by repeat (first | (with_reducible first | exact HB.out | apply below_alloc | apply pw_below_drewN | apply below_drew1 | refine below_set ?_ GE804.out) | exact HB.out)⟩
            · rw [if_neg c22] at H
              exact absurd H (by simp)
          · rw [if_neg c21] at H
            exact absurd H (by simp)
end Go.Proofs.YtagkhoeidjlahaaDoor.G
namespace Go.Proofs.YtagkhoeidjlahaaDoor.G
open Go.RowKit Go.Proofs.YtagkhoeidjlahaaDoorW.PrintWords Go.Proofs.YtagkhoeidjlahaaDoorW.PrintLast Go.Proofs.YtagkhoeidjlahaaDoorW.PrintMore
attribute [local go_sem] max2_int min2_int max_two min_two max_three min_three max_four min_four
set_option linter.unusedVariables false
set_option linter.unusedSimpArgs false
def vinculumref11_Contains.j0 : Nat → List Int → Int → Bool → List Int → Int → Int → Option (Bool)
  | 0, _, _, _, _, _, _ => none
  | k + 1, x1, x5, x21, x811000, x811001, x811002 => if x21 = true then (some false) else (if (x1.length : Int) = (wrap64 (x5 + 1)) then (if 0 ≤ x5 then (if x5 < (x1.length : Int) then (if (rd x1 x5) ≥ x811001 then (some (decide ((rd x1 x5) ≤ x811002))) else (some false)) else (none)) else (none)) else (if 0 ≤ x5 then (if x5 < (x1.length : Int) then (if (rd x1 x5) ≥ x811001 then (some (decide ((rd x1 x5) < x811002))) else (some false)) else (none)) else (none)))
def vinculumref11_Contains.f (k : Nat) (l0_0 : List Int) (a0_1 : Int) (a0_2 : Int) (l1 : List Int) : Option (Bool) := if (l1.length : Int) ≤ (l0_0.length : Int) then (vinculumref11_Contains.j0 k l1 (l0_0.length : Int) true l0_0 a0_1 a0_2) else (if 0 ≤ (l0_0.length : Int) then (if (l0_0.length : Int) ≤ (l1.length : Int) then ((vinculumref10_Compare.f k (l1.take ((l0_0.length : Int) : Int).toNat) l0_0).bind fun t812 => (vinculumref11_Contains.j0 k l1 (l0_0.length : Int) (t812 != 0) l0_0 a0_1 a0_2)) else (none)) else (none))
set_option maxHeartbeats 8000000 in
set_option maxRecDepth 100000 in
theorem vinculumref11_Contains.calls (k : Nat) (A0_0 : Option Addr) (c0_0 : Nat) (l0_0 : List Int) (a0_1 : Int) (a0_2 : Int) (A1 : Option Addr) (c1 : Nat) (l1 : List Int) (r : Bool) (w : World) (hr0_0 : Kd.C (Kd.int .i64) w A0_0 l0_0.length l0_0) (hc0_0 : l0_0.length ≤ c0_0) (hr1 : Kd.C (Kd.int .i64) w A1 l1.length l1) (hc1 : l1.length ≤ c1) (h : vinculumref11_Contains.f k l0_0 a0_1 a0_2 l1 = some r) :
    Calls Tryd.prog 53 #[.agg #[.slice A0_0 l0_0.length c0_0, .int .i64 a0_1, .int .i64 a0_2], .slice A1 l1.length c1] w fun e w' => e = .returned (.bool r) ∧ Below w.heap.size w w' := by
  have hu54 := Tryd.underlying54
  have HR0_0 := Aside0.mk hr0_0
  have HC0_0 := Aside0.mk hc0_0
  clear hr0_0 hc0_0
  have HR1 := Aside0.mk hr1
  have HC1 := Aside0.mk hc1
  clear hr1 hc1
  have HB := Aside0.mk (Below.refl w.heap.size w)
  have H : (if (l1.length : Int) ≤ (l0_0.length : Int) then (vinculumref11_Contains.j0 k l1 (l0_0.length : Int) true l0_0 a0_1 a0_2) else (if 0 ≤ (l0_0.length : Int) then (if (l0_0.length : Int) ≤ (l1.length : Int) then ((vinculumref10_Compare.f k (l1.take ((l0_0.length : Int) : Int).toNat) l0_0).bind fun t812 => (vinculumref11_Contains.j0 k l1 (l0_0.length : Int) (t812 != 0) l0_0 a0_1 a0_2)) else (none)) else (none))) = some r := h
  clear h
  have HC3 := Aside0.mk H
  clear H
  go_enter Tryd.func53, Tryd.ntmps53
  go_upto_region 2 with (first | ((with_reducible refine gate_dst (N := 2) rfl ?_); refine box_event ?hg (N := 2) ?hd (cs := #[.slice A0_0 l0_0.length c0_0, .int .i64 a0_1, .int .i64 a0_2]) (t := 54) ?hr ?_; (case hd => rfl); (case hg => rfl); (case hr => first | (go_simp; done) | (go_simp; rfl)); intro gb810 hg w4 hbox hb; have n0_ := Aside0.mk (below_step (by repeat (first | (with_reducible first | exact HB.out | apply below_alloc | apply pw_below_drewN | apply below_drew1) | exact HB.out)) hb); have n1_ := Aside0.mk (hbox); have n2_ := Aside0.mk ((by rw [hg]; exact (below_size (by repeat (first | (with_reducible first | exact HB.out | apply below_alloc | apply pw_below_drewN | apply below_drew1) | exact HB.out))) : w.heap.size ≤ gb810)); have n3_ := Aside0.mk ((by rw [hg]; exact (below_size (by repeat (first | (with_reducible first | exact HB.out | apply below_alloc | apply pw_below_drewN | apply below_drew1) | exact HB.out))) : w.heap.size ≤ gb810)); clear HB; have HB := n0_; have BK810 := n1_; have GW810 := n2_; have GE810 := n3_; clear n0_ n1_ n2_ n3_; clear hb hbox hg; have hcz5_0 : w4.cell? ⟨gb810, 0, none⟩ = some (.slice A0_0 l0_0.length c0_0) := (blk_cell BK810.out 0).trans rfl; have hcz5_1 : w4.cell? ⟨gb810, 1, none⟩ = some (.int .i64 a0_1) := (blk_cell BK810.out 1).trans rfl; have hcz5_2 : w4.cell? ⟨gb810, 2, none⟩ = some (.int .i64 a0_2) := (blk_cell BK810.out 2).trans rfl; have hfz5_0 := blk_frozen BK810.out 0; have hfz5_1 := blk_frozen BK810.out 1; have hfz5_2 := blk_frozen BK810.out 2))
  repeat (go_quiet (first | ((with_reducible refine gate_dst (N := 2) rfl ?_); refine box_event ?hg (N := 2) ?hd (cs := #[.slice A0_0 l0_0.length c0_0, .int .i64 a0_1, .int .i64 a0_2]) (t := 54) ?hr ?_; (case hd => rfl); (case hg => rfl); (case hr => first | (go_simp; done) | (go_simp; rfl)); intro gb810 hg w4 hbox hb; have n0_ := Aside0.mk (below_step (by repeat (first | (with_reducible first | exact HB.out | apply below_alloc | apply pw_below_drewN | apply below_drew1) | exact HB.out)) hb); have n1_ := Aside0.mk (hbox); have n2_ := Aside0.mk ((by rw [hg]; exact (below_size (by repeat (first | (with_reducible first | exact HB.out | apply below_alloc | apply pw_below_drewN | apply below_drew1) | exact HB.out))) : w.heap.size ≤ gb810)); have n3_ := Aside0.mk ((by rw [hg]; exact (below_size (by repeat (first | (with_reducible first | exact HB.out | apply below_alloc | apply pw_below_drewN | apply below_drew1) | exact HB.out))) : w.heap.size ≤ gb810)); clear HB; have HB := n0_; have BK810 := n1_; have GW810 := n2_; have GE810 := n3_; clear n0_ n1_ n2_ n3_; clear hb hbox hg; have hcz5_0 : w4.cell? ⟨gb810, 0, none⟩ = some (.slice A0_0 l0_0.length c0_0) := (blk_cell BK810.out 0).trans rfl; have hcz5_1 : w4.cell? ⟨gb810, 1, none⟩ = some (.int .i64 a0_1) := (blk_cell BK810.out 1).trans rfl; have hcz5_2 : w4.cell? ⟨gb810, 2, none⟩ = some (.int .i64 a0_2) := (blk_cell BK810.out 2).trans rfl; have hfz5_0 := blk_frozen BK810.out 0; have hfz5_1 := blk_frozen BK810.out 1; have hfz5_2 := blk_frozen BK810.out 2)); go_upto_region 2 with (first | ((with_reducible refine gate_dst (N := 2) rfl ?_); refine box_event ?hg (N := 2) ?hd (cs := #[.slice A0_0 l0_0.length c0_0, .int .i64 a0_1, .int .i64 a0_2]) (t := 54) ?hr ?_; (case hd => rfl); (case hg => rfl); (case hr => first | (go_simp; done) | (go_simp; rfl)); intro gb810 hg w4 hbox hb; have n0_ := Aside0.mk (below_step (by repeat (first | (with_reducible first | exact HB.out | apply below_alloc | apply pw_below_drewN | apply below_drew1) | exact HB.out)) hb); have n1_ := Aside0.mk (hbox); have n2_ := Aside0.mk ((by rw [hg]; exact (below_size (by repeat (first | (with_reducible first | exact HB.out | apply below_alloc | apply pw_below_drewN | apply below_drew1) | exact HB.out))) : w.heap.size ≤ gb810)); have n3_ := Aside0.mk ((by rw [hg]; exact (below_size (by repeat (first | (with_reducible first | exact HB.out | apply below_alloc | apply pw_below_drewN | apply below_drew1) | exact HB.out))) : w.heap.size ≤ gb810)); clear HB; have HB := n0_; have BK810 := n1_; have GW810 := n2_; have GE810 := n3_; clear n0_ n1_ n2_ n3_; clear hb hbox hg; have hcz5_0 : w4.cell? ⟨gb810, 0, none⟩ = some (.slice A0_0 l0_0.length c0_0) := (blk_cell BK810.out 0).trans rfl; have hcz5_1 : w4.cell? ⟨gb810, 1, none⟩ = some (.int .i64 a0_1) := (blk_cell BK810.out 1).trans rfl; have hcz5_2 : w4.cell? ⟨gb810, 2, none⟩ = some (.int .i64 a0_2) := (blk_cell BK810.out 2).trans rfl; have hfz5_0 := blk_frozen BK810.out 0; have hfz5_1 := blk_frozen BK810.out 1; have hfz5_2 := blk_frozen BK810.out 2)))
  (try simp only [Act.put, List.setIfInBounds_toArray, List.set_cons_zero, List.set_cons_succ])
  go_cut [21] (fun v21 wc => ∃ (kq : Nat) (x21_2 : Bool), v21 = .bool x21_2 ∧ Aside0 (vinculumref11_Contains.j0 kq l1 (l0_0.length : Int) x21_2 l0_0 a0_1 a0_2 = some r) ∧ Aside0 (kq ≤ k) ∧ Aside0 (wc.heap[gb810]? = some (.cells #[(.slice A0_0 l0_0.length c0_0), .int .i64 a0_1, .int .i64 a0_2] 54 (0, 0))) ∧ Aside0 (Below w.heap.size w wc))
  case first =>
    have H := HC3.out
    clear HC3
    by_cases c6 : (l1.length : Int) ≤ (l0_0.length : Int)
    · rw [if_pos c6] at H
      have c6b0 : decide ((l1.length : Int) ≤ (l0_0.length : Int)) = true := decide_eq_true c6
      have c6b1 : decide (l1.length ≤ l0_0.length) = true := decide_eq_true (Int.ofNat_le.mp c6)
      clear c6
      (first | rw [c6b0] | (simp only [i64_w, i32_w]; rw [c6b0]) | skip)
      have H' := Aside0.mk H
      clear H
      go_wp2
      repeat (go_quiet (fail); try go_wp2)
      go_meet
      case rel => exact ⟨_, (true), (by first | rfl | (simp; done) | (simp [*]; done)), H', ⟨by first | omega | exact Nat.le_refl _⟩, ⟨by (with_reducible repeat (first | refine blk_drewN ?_ _ | refine blk_drew ?_ | refine blk_alloc ?_ _)); exact BK810.out⟩, ⟨by repeat (first | (with_reducible first | exact HB.out | apply below_alloc | apply pw_below_drewN | apply below_drew1 | refine below_set ?_ GE810.out) | exact HB.out)⟩⟩
    · rw [if_neg c6] at H
      have c6b0 : decide ((l1.length : Int) ≤ (l0_0.length : Int)) = false := decide_eq_false c6
      have c6b1 : decide (l1.length ≤ l0_0.length) = false := decide_eq_false (fun h => c6 (Int.ofNat_le.mpr h))
      clear c6
      (first | rw [c6b0] | (simp only [i64_w, i32_w]; rw [c6b0]) | skip)
      by_cases c7 : 0 ≤ (l0_0.length : Int)
      · rw [if_pos c7] at H
        have c7b0 := eq_true c7
        have c7b1 : decide (0 ≤ (l0_0.length : Int)) = true := decide_eq_true c7
        clear c7
        by_cases c8 : (l0_0.length : Int) ≤ (l1.length : Int)
        · rw [if_pos c8] at H
          have c8b0 := eq_true c8
          have c8b1 : decide ((l0_0.length : Int) ≤ (l1.length : Int)) = true := decide_eq_true c8
          clear c8
          replace H := Option.bind_eq_some_iff.mp H
          obtain ⟨t812, A90, H⟩ := H
          replace H : (vinculumref11_Contains.j0 k l1 (l0_0.length : Int) (t812 != 0) l0_0 a0_1 a0_2) = some r := H
          have A9 := Aside0.mk A90
          clear A90
          have H' := Aside0.mk H
          clear H
          obtain ⟨i010, hi010, _, hsz10, _⟩ := info_parts info3
          obtain ⟨hcut10, hA10, hC10⟩ := print_take_of (P := Tryd.prog) (Value.int .i64) 0 26 3 .i64 Tryd.underlying26 hi010 hsz10 A1 c1 l1 (l0_0.length : Int) (of_decide_eq_true (by first | (with_reducible assumption) | assumption)) (of_decide_eq_true (by first | (with_reducible assumption) | assumption)) HC1.out
          have HR811 := Aside0.mk (Kd.C_of_reads (h1 := fun _ => rfl) (hA10 _ (Kd.reads_of_C HR1.out)))
          have HC811 := Aside0.mk hC10
          clear hA10 hC10 hi010 hsz10
          have hcz11_0 : w4.cell? ⟨gb810, 0, none⟩ = some (.slice A0_0 l0_0.length c0_0) := (blk_cell BK810.out 0).trans rfl
          have hcz11_1 : w4.cell? ⟨gb810, 1, none⟩ = some (.int .i64 a0_1) := (blk_cell BK810.out 1).trans rfl
          have hcz11_2 : w4.cell? ⟨gb810, 2, none⟩ = some (.int .i64 a0_2) := (blk_cell BK810.out 2).trans rfl
          have hfz11_0 := blk_frozen BK810.out 0
          have hfz11_1 := blk_frozen BK810.out 1
          have hfz11_2 := blk_frozen BK810.out 2
          go_wp2_with (first | (go_at_call 33; (first | (with_reducible refine (vinculumref10_Compare.calls k _ _ (l1.take ((l0_0.length : Int) : Int).toNat) _ _ l0_0 t812 _ ?side1 ?side2 ?side3 ?side4 A9.out).mono ?_) | (refine calls_args (by simp only [List.length_take, List.length_drop, Int.toNat_natCast]; rfl) (Calls.mono (vinculumref10_Compare.calls k _ _ (l1.take ((l0_0.length : Int) : Int).toNat) _ _ l0_0 t812 _ ?side1 ?side2 ?side3 ?side4 A9.out) ?_))); (case side1 => repeat (first | exact (Kd.C_below HR811.out HB.out) | (with_reducible refine Kd.C_alloc ?_ _) | (with_reducible refine Kd.C_drewN ?_ _) | (with_reducible refine Kd.C_drew ?_))); (case side2 => exact HC811.out); (case side3 => repeat (first | exact (Kd.C_below HR0_0.out HB.out) | (with_reducible refine Kd.C_alloc ?_ _) | (with_reducible refine Kd.C_drewN ?_ _) | (with_reducible refine Kd.C_drew ?_))); (case side4 => exact HC0_0.out); rintro e w' ⟨rfl, ⟨nd, rfl⟩⟩; (try first | exact ⟨rfl, _, World.drewN_drewN _ _ _⟩ | exact ⟨rfl, _, Eq.trans (World.drewN_drewN _ _ _) (congrArg (World.drewN _) (Nat.add_assoc _ _ _))⟩)))
          repeat (go_quiet (first | (go_at_call 33; (first | (with_reducible refine (vinculumref10_Compare.calls k _ _ (l1.take ((l0_0.length : Int) : Int).toNat) _ _ l0_0 t812 _ ?side1 ?side2 ?side3 ?side4 A9.out).mono ?_) | (refine calls_args (by simp only [List.length_take, List.length_drop, Int.toNat_natCast]; rfl) (Calls.mono (vinculumref10_Compare.calls k _ _ (l1.take ((l0_0.length : Int) : Int).toNat) _ _ l0_0 t812 _ ?side1 ?side2 ?side3 ?side4 A9.out) ?_))); (case side1 => repeat (first | exact (Kd.C_below HR811.out HB.out) | (with_reducible refine Kd.C_alloc ?_ _) | (with_reducible refine Kd.C_drewN ?_ _) | (with_reducible refine Kd.C_drew ?_))); (case side2 => exact HC811.out); (case side3 => repeat (first | exact (Kd.C_below HR0_0.out HB.out) | (with_reducible refine Kd.C_alloc ?_ _) | (with_reducible refine Kd.C_drewN ?_ _) | (with_reducible refine Kd.C_drew ?_))); (case side4 => exact HC0_0.out); rintro e w' ⟨rfl, ⟨nd, rfl⟩⟩; (try first | exact ⟨rfl, _, World.drewN_drewN _ _ _⟩ | exact ⟨rfl, _, Eq.trans (World.drewN_drewN _ _ _) (congrArg (World.drewN _) (Nat.add_assoc _ _ _))⟩))); try go_wp2_with (first | (go_at_call 33; (first | (with_reducible refine (vinculumref10_Compare.calls k _ _ (l1.take ((l0_0.length : Int) : Int).toNat) _ _ l0_0 t812 _ ?side1 ?side2 ?side3 ?side4 A9.out).mono ?_) | (refine calls_args (by simp only [List.length_take, List.length_drop, Int.toNat_natCast]; rfl) (Calls.mono (vinculumref10_Compare.calls k _ _ (l1.take ((l0_0.length : Int) : Int).toNat) _ _ l0_0 t812 _ ?side1 ?side2 ?side3 ?side4 A9.out) ?_))); (case side1 => repeat (first | exact (Kd.C_below HR811.out HB.out) | (with_reducible refine Kd.C_alloc ?_ _) | (with_reducible refine Kd.C_drewN ?_ _) | (with_reducible refine Kd.C_drew ?_))); (case side2 => exact HC811.out); (case side3 => repeat (first | exact (Kd.C_below HR0_0.out HB.out) | (with_reducible refine Kd.C_alloc ?_ _) | (with_reducible refine Kd.C_drewN ?_ _) | (with_reducible refine Kd.C_drew ?_))); (case side4 => exact HC0_0.out); rintro e w' ⟨rfl, ⟨nd, rfl⟩⟩; (try first | exact ⟨rfl, _, World.drewN_drewN _ _ _⟩ | exact ⟨rfl, _, Eq.trans (World.drewN_drewN _ _ _) (congrArg (World.drewN _) (Nat.add_assoc _ _ _))⟩))))
          go_meet
          case rel => exact ⟨_, ((t812 != 0)), (by first | rfl | (simp; done) | (simp [*]; done)), H', ⟨by first | omega | exact Nat.le_refl _⟩, ⟨by (with_reducible repeat (first | refine blk_drewN ?_ _ | refine blk_drew ?_ | refine blk_alloc ?_ _)); exact BK810.out⟩, ⟨by repeat (first | (with_reducible first | exact HB.out | apply below_alloc | apply pw_below_drewN | apply below_drew1 | refine below_set ?_ GE810.out) | exact HB.out)⟩⟩
        · rw [if_neg c8] at H
          exact absurd H (by simp)
      · rw [if_neg c7] at H
        exact absurd H (by simp)
  case rest =>
    clear HC3
    try clear c1
    try clear p2
    try clear c5
    try clear c6
    try clear c6b0
    try clear c6b1
    try clear c7
    try clear c7b0
    try clear c7b1
    try clear c8
    try clear c8b0
    try clear c8b1
    try clear hcz11_0
    try clear hcz11_1
    try clear hcz11_2
    try clear hcz5_0
    try clear hcz5_1
    try clear hcz5_2
    try clear hfz11_0
    try clear hfz11_1
    try clear hfz11_2
    try clear hfz5_0
    try clear hfz5_1
    try clear hfz5_2
    obtain ⟨kq, x21_2, rfl, HA, HJ2, BK810, HB⟩ := hcut
    cases kq with
    | zero => exact absurd HA.out (by simp [vinculumref11_Contains.j0])
    | succ kj2 =>
      have H := HA.out
      clear HA
      simp only [vinculumref11_Contains.j0] at H
      by_cases c12 : x21_2 = true
      · subst c12
        have H1 : (some false) = some r := by rw [if_pos rfl] at H; exact H
        clear H
        have H := H1
        clear H1
        obtain rfl := Option.some.inj H
        go_wp2
        repeat (go_quiet (fail); try go_wp2)
        go_ret
        exact ⟨by first | rfl | (simp [errW_none, errW_some] <;> rfl) | (simp [*, errW_none, errW_some] <;> rfl), by repeat (first | (with_reducible first | exact HB.out | apply below_alloc | apply pw_below_drewN | apply below_drew1 | refine below_set ?_ GE810.out) | exact HB.out)⟩
      · replace c12 := Bool.eq_false_iff.mpr c12
        subst c12
        have H1 : (if (l1.length : Int) = (wrap64 ((l0_0.length : Int) + 1)) then (if 0 ≤ (l0_0.length : Int) then (if (l0_0.length : Int) < (l1.length : Int) then (if (rd l1 (l0_0.length : Int)) ≥ a0_1 then (some (decide ((rd l1 (l0_0.length : Int)) ≤ a0_2))) else (some false)) else (none)) else (none)) else (if 0 ≤ (l0_0.length : Int) then (if (l0_0.length : Int) < (l1.length : Int) then (if (rd l1 (l0_0.length : Int)) ≥ a0_1 then (some (decide ((rd l1 (l0_0.length : Int)) < a0_2))) else (some false)) else (none)) else (none))) = some r := by rw [if_neg (show ¬ (false = true) by decide)] at H; exact H
        clear H
        have H := H1
        clear H1
        by_cases c13 : (l1.length : Int) = (wrap64 ((l0_0.length : Int) + 1))
        · rw [if_pos c13] at H
          have c13b0 : ((l1.length : Int) == (wrap64 ((l0_0.length : Int) + 1))) = true := beq_iff_eq.mpr c13
          have c13b1 : ((l1.length : Int) != (wrap64 ((l0_0.length : Int) + 1))) = false := bne_eq_false_iff_eq.mpr c13
          clear c13
          by_cases c14 : 0 ≤ (l0_0.length : Int)
          · rw [if_pos c14] at H
            have c14b0 : decide (0 ≤ (l0_0.length : Int)) = true := decide_eq_true c14
            have c14b1 : decide (0 ≤ l0_0.length) = true := decide_eq_true (by omega)
            clear c14
            by_cases c15 : (l0_0.length : Int) < (l1.length : Int)
            · rw [if_pos c15] at H
              have c15b0 : decide ((l0_0.length : Int) < (l1.length : Int)) = true := decide_eq_true c15
              have c15b1 : decide (l0_0.length < l1.length) = true := decide_eq_true (Int.ofNat_lt.mp c15)
              clear c15
              by_cases c16 : (rd l1 (l0_0.length : Int)) ≥ a0_1
              · rw [if_pos c16] at H
                have c16b0 : decide (a0_1 ≤ (rd l1 (l0_0.length : Int))) = true := decide_eq_true c16
                clear c16
                obtain rfl := Option.some.inj H
                have p813 : 0 ≤ ((l0_0.length : Int) : Int) := of_decide_eq_true (by first | (with_reducible assumption) | assumption)
                have q813 : (l0_0.length : Int) < (l1.length : Int) := of_decide_eq_true (by first | (with_reducible assumption) | assumption)
                obtain ⟨ad813, e813, hx813_0⟩ := Kd.at_int HR1.out (l0_0.length : Int) p813 q813
                cases e813
                replace hx813_0 := (HB.out.cell (World.block_lt_of_cell? w _ hx813_0)).trans hx813_0
                (try simp only [Go.IntWalk.toNatUp] at hx813_0)
                replace p813 := eq_true p813
                replace q813 := eq_true q813
                have hcz17_0 : wc.cell? ⟨gb810, 0, none⟩ = some (.slice A0_0 l0_0.length c0_0) := (blk_cell BK810.out 0).trans rfl
                have hcz17_1 : wc.cell? ⟨gb810, 1, none⟩ = some (.int .i64 a0_1) := (blk_cell BK810.out 1).trans rfl
                have hcz17_2 : wc.cell? ⟨gb810, 2, none⟩ = some (.int .i64 a0_2) := (blk_cell BK810.out 2).trans rfl
                have hfz17_0 := blk_frozen BK810.out 0
                have hfz17_1 := blk_frozen BK810.out 1
                have hfz17_2 := blk_frozen BK810.out 2
                have p814 : 0 ≤ ((l0_0.length : Int) : Int) := of_decide_eq_true (by first | (with_reducible assumption) | assumption)
                have q814 : (l0_0.length : Int) < (l1.length : Int) := of_decide_eq_true (by first | (with_reducible assumption) | assumption)
                obtain ⟨ad814, e814, hx814_0⟩ := Kd.at_int HR1.out (l0_0.length : Int) p814 q814
                obtain rfl : ad813 = ad814 := (by injection e814)
                replace hx814_0 := (HB.out.cell (World.block_lt_of_cell? w _ hx814_0)).trans hx814_0
                (try simp only [Go.IntWalk.toNatUp] at hx814_0)
                replace p814 := eq_true p814
                replace q814 := eq_true q814
                go_wp2
                repeat (go_quiet (fail); try go_wp2)
                go_ret
                exact ⟨by first | rfl | (simp [errW_none, errW_some] <;> rfl) | (simp [*, errW_none, errW_some] <;> rfl), by repeat (first | (with_reducible first | exact HB.out | apply below_alloc | apply pw_below_drewN | apply below_drew1 | refine below_set ?_ GE810.out) | exact HB.out)⟩
              · rw [if_neg c16] at H
                have c16b0 : decide (a0_1 ≤ (rd l1 (l0_0.length : Int))) = false := decide_eq_false c16
                clear c16
                obtain rfl := Option.some.inj H
                have p813 : 0 ≤ ((l0_0.length : Int) : Int) := of_decide_eq_true (by first | (with_reducible assumption) | assumption)
                have q813 : (l0_0.length : Int) < (l1.length : Int) := of_decide_eq_true (by first | (with_reducible assumption) | assumption)
                obtain ⟨ad813, e813, hx813_0⟩ := Kd.at_int HR1.out (l0_0.length : Int) p813 q813
                cases e813
                replace hx813_0 := (HB.out.cell (World.block_lt_of_cell? w _ hx813_0)).trans hx813_0
                (try simp only [Go.IntWalk.toNatUp] at hx813_0)
                replace p813 := eq_true p813
                replace q813 := eq_true q813
                have hcz18_0 : wc.cell? ⟨gb810, 0, none⟩ = some (.slice A0_0 l0_0.length c0_0) := (blk_cell BK810.out 0).trans rfl
                have hcz18_1 : wc.cell? ⟨gb810, 1, none⟩ = some (.int .i64 a0_1) := (blk_cell BK810.out 1).trans rfl
                have hcz18_2 : wc.cell? ⟨gb810, 2, none⟩ = some (.int .i64 a0_2) := (blk_cell BK810.out 2).trans rfl
                have hfz18_0 := blk_frozen BK810.out 0
                have hfz18_1 := blk_frozen BK810.out 1
                have hfz18_2 := blk_frozen BK810.out 2
                go_wp2
                repeat (go_quiet (fail); try go_wp2)
                go_ret
                exact ⟨by first | rfl | (simp [errW_none, errW_some] <;> rfl) | (simp [*, errW_none, errW_some] <;> rfl), by repeat (first | (with_reducible first | exact HB.out | apply below_alloc | apply pw_below_drewN | apply below_drew1 | refine below_set ?_ GE810.out) | exact HB.out)⟩
            · rw [if_neg c15] at H
              exact absurd H (by simp)
          · rw [if_neg c14] at H
            exact absurd H (by simp)
        · rw [if_neg c13] at H
          have c13b0 : ((l1.length : Int) == (wrap64 ((l0_0.length : Int) + 1))) = false := beq_eq_false_iff_ne.mpr c13
          have c13b1 : ((l1.length : Int) != (wrap64 ((l0_0.length : Int) + 1))) = true := bne_iff_ne.mpr c13
          by_cases c19 : 0 ≤ (l0_0.length : Int)
          · rw [if_pos c19] at H
            have c19b0 : decide (0 ≤ (l0_0.length : Int)) = true := decide_eq_true c19
            have c19b1 : decide (0 ≤ l0_0.length) = true := decide_eq_true (by omega)
            clear c19
            by_cases c20 : (l0_0.length : Int) < (l1.length : Int)
            · rw [if_pos c20] at H
              have c20b0 : decide ((l0_0.length : Int) < (l1.length : Int)) = true := decide_eq_true c20
              have c20b1 : decide (l0_0.length < l1.length) = true := decide_eq_true (Int.ofNat_lt.mp c20)
              clear c20
              by_cases c21 : (rd l1 (l0_0.length : Int)) ≥ a0_1
              · rw [if_pos c21] at H
                have c21b0 : decide (a0_1 ≤ (rd l1 (l0_0.length : Int))) = true := decide_eq_true c21
                clear c21
                obtain rfl := Option.some.inj H
                have p815 : 0 ≤ ((l0_0.length : Int) : Int) := of_decide_eq_true (by first | (with_reducible assumption) | assumption)
                have q815 : (l0_0.length : Int) < (l1.length : Int) := of_decide_eq_true (by first | (with_reducible assumption) | assumption)
                obtain ⟨ad815, e815, hx815_0⟩ := Kd.at_int HR1.out (l0_0.length : Int) p815 q815
                cases e815
                replace hx815_0 := (HB.out.cell (World.block_lt_of_cell? w _ hx815_0)).trans hx815_0
                (try simp only [Go.IntWalk.toNatUp] at hx815_0)
                replace p815 := eq_true p815
                replace q815 := eq_true q815
                have hcz22_0 : wc.cell? ⟨gb810, 0, none⟩ = some (.slice A0_0 l0_0.length c0_0) := (blk_cell BK810.out 0).trans rfl
                have hcz22_1 : wc.cell? ⟨gb810, 1, none⟩ = some (.int .i64 a0_1) := (blk_cell BK810.out 1).trans rfl
                have hcz22_2 : wc.cell? ⟨gb810, 2, none⟩ = some (.int .i64 a0_2) := (blk_cell BK810.out 2).trans rfl
                have hfz22_0 := blk_frozen BK810.out 0
                have hfz22_1 := blk_frozen BK810.out 1
                have hfz22_2 := blk_frozen BK810.out 2
                have p816 : 0 ≤ ((l0_0.length : Int) : Int) := of_decide_eq_true (by first | (with_reducible assumption) | assumption)
                have q816 : (l0_0.length : Int) < (l1.length : Int) := of_decide_eq_true (by first | (with_reducible assumption) | assumption)
                obtain ⟨ad816, e816, hx816_0⟩ := Kd.at_int HR1.out (l0_0.length : Int) p816 q816
                obtain rfl : ad815 = ad816 := (by injection e816)
                replace hx816_0 := (HB.out.cell (World.block_lt_of_cell? w _ hx816_0)).trans hx816_0
                (try simp only [Go.IntWalk.toNatUp] at hx816_0)
                replace p816 := eq_true p816
                replace q816 := eq_true q816
                go_wp2
                repeat (go_quiet (fail); try go_wp2)
                go_ret
                exact ⟨by first | rfl | (simp [errW_none, errW_some] <;> rfl) | (simp [*, errW_none, errW_some] <;> rfl), by repeat (first | (with_reducible first | exact HB.out | apply below_alloc | apply pw_below_drewN | apply below_drew1 | refine below_set ?_ GE810.out) | exact HB.out)⟩
              · rw [if_neg c21] at H
                have c21b0 : decide (a0_1 ≤ (rd l1 (l0_0.length : Int))) = false := decide_eq_false c21
                clear c21
                obtain rfl := Option.some.inj H
                have p815 : 0 ≤ ((l0_0.length : Int) : Int) := of_decide_eq_true (by first | (with_reducible assumption) | assumption)
                have q815 : (l0_0.length : Int) < (l1.length : Int) := of_decide_eq_true (by first | (with_reducible assumption) | assumption)
                obtain ⟨ad815, e815, hx815_0⟩ := Kd.at_int HR1.out (l0_0.length : Int) p815 q815
                cases e815
                replace hx815_0 := (HB.out.cell (World.block_lt_of_cell? w _ hx815_0)).trans hx815_0
                (try simp only [Go.IntWalk.toNatUp] at hx815_0)
                replace p815 := eq_true p815
                replace q815 := eq_true q815
                have hcz23_0 : wc.cell? ⟨gb810, 0, none⟩ = some (.slice A0_0 l0_0.length c0_0) := (blk_cell BK810.out 0).trans rfl
                have hcz23_1 : wc.cell? ⟨gb810, 1, none⟩ = some (.int .i64 a0_1) := (blk_cell BK810.out 1).trans rfl
                have hcz23_2 : wc.cell? ⟨gb810, 2, none⟩ = some (.int .i64 a0_2) := (blk_cell BK810.out 2).trans rfl
                have hfz23_0 := blk_frozen BK810.out 0
                have hfz23_1 := blk_frozen BK810.out 1
                have hfz23_2 := blk_frozen BK810.out 2
                go_wp2
                repeat (go_quiet (fail); try go_wp2)
                go_ret
                exact ⟨by first | rfl | (simp [errW_none, errW_some] <;> rfl) | (simp [*, errW_none, errW_some] <;> rfl), by repeat (first | (with_reducible first | exact HB.out | apply below_alloc | apply pw_below_drewN | apply below_drew1 | refine below_set ?_ GE810.out) | exact HB.out)⟩
            · rw [if_neg c20] at H
              exact absurd H (by simp)
          · rw [if_neg c19] at H
            exact absurd H (by simp)
end Go.Proofs.YtagkhoeidjlahaaDoor.G
namespace Go.Proofs.YtagkhoeidjlahaaDoor.G
open Go.RowKit Go.Proofs.YtagkhoeidjlahaaDoorW.PrintWords Go.Proofs.YtagkhoeidjlahaaDoorW.PrintLast Go.Proofs.YtagkhoeidjlahaaDoorW.PrintMore
attribute [local go_sem] max2_int min2_int max_two min_two max_three min_three max_four min_four
set_option linter.unusedVariables false
set_option linter.unusedSimpArgs false
def selection_Start.f (l0_0 : List Int) (a0_1 : Int) (a0_2 : Int) : Option (List Int) := (slices_Clone_int_int.f l0_0).bind fun t818 => ((some (([a0_1] : List Int) : List Int)).bind fun y821 => (if t818.length + y821.length < 17592186044416 then (some (t818 ++ y821)) else (none)))
def selection_Start.T1 : Bool × List (List Nat × List Nat) := (true, [([], []), ([0], [0]), ([1], [1]), ([], []), ([3], [3]), ([4], [4]), ([2, 5, 2], [2, 5]), ([6, 6, 0, 1, 2, 3, 4, 5, 6], [6])])
def selection_Start.B1 : List Nat := [0, 1, 3, 0, 8, 24, 63, 127]
theorem selection_Start.tab1 : rtab .any (opsOf Tryd.f54 1) = selection_Start.T1 := by kernel_rfl
theorem selection_Start.bits1 : waitsOk selection_Start.T1.2 selection_Start.B1 = true := by kernel_rfl
set_option maxHeartbeats 8000000 in
set_option maxRecDepth 100000 in
theorem selection_Start.calls (A0_0 : Option Addr) (c0_0 : Nat) (l0_0 : List Int) (a0_1 : Int) (a0_2 : Int) (r : List Int) (w : World) (hr0_0 : Kd.C (Kd.int .i64) w A0_0 l0_0.length l0_0) (hc0_0 : l0_0.length ≤ c0_0) (h : selection_Start.f l0_0 a0_1 a0_2 = some r) :
    Calls Tryd.prog 54 #[.agg #[.slice A0_0 l0_0.length c0_0, .int .i64 a0_1, .int .i64 a0_2]] w fun e w' => ∃ v0_ : Value, e = .returned (v0_) ∧ Kd.R (Kd.int .i64) 3 w' w.heap.size (fun _ => True) v0_ r ∧ Below w.heap.size w w' := by
  have hu54 := Tryd.underlying54
  have HR0_0 := Aside0.mk hr0_0
  have HC0_0 := Aside0.mk hc0_0
  clear hr0_0 hc0_0
  have HB := Aside0.mk (Below.refl w.heap.size w)
  have H : ((slices_Clone_int_int.f l0_0).bind fun t818 => ((some (([a0_1] : List Int) : List Int)).bind fun y821 => (if t818.length + y821.length < 17592186044416 then (some (t818 ++ y821)) else (none)))) = some r := h
  clear h
  replace H := Option.bind_eq_some_iff.mp H
  obtain ⟨t818, A20, H⟩ := H
  replace H : ((some (([a0_1] : List Int) : List Int)).bind fun y821 => (if t818.length + y821.length < 17592186044416 then (some (t818 ++ y821)) else (none))) = some r := H
  have A2 := Aside0.mk A20
  clear A20
  obtain ⟨y821, hy821⟩ : ∃ y_ : List Int, y_ = (([a0_1] : List Int)) := ⟨_, rfl⟩
  replace H : (if t818.length + y821.length < 17592186044416 then (some (t818 ++ y821)) else (none)) = some r := by first | (rw [hy821]; with_reducible exact H) | (have H2_ := (Option.bind_some _ _).symm.trans H; rw [hy821]; with_reducible exact H2_) | (have H2_ := (Option.bind_some _ _).symm.trans H; with_reducible exact H2_) | with_reducible exact H | (rw [hy821]; exact H) | exact H
  have Ny821 := Aside0.mk hy821
  clear hy821
  by_cases c3 : t818.length + y821.length < 17592186044416
  · rw [if_pos c3] at H
    have LMc3 := Aside0.mk c3
    clear c3
    obtain ⟨y824, hy824⟩ : ∃ y_ : List Int, y_ = (t818 ++ y821) := ⟨_, rfl⟩
    replace H : (some y824) = some r := by first | (rw [hy824]; with_reducible exact H) | (have H2_ := (Option.bind_some _ _).symm.trans H; rw [hy824]; with_reducible exact H2_) | (have H2_ := (Option.bind_some _ _).symm.trans H; with_reducible exact H2_) | with_reducible exact H | (rw [hy824]; exact H) | exact H
    have Ny824 := Aside0.mk hy824
    clear hy824
    obtain rfl := Option.some.inj H
    go_enter Tryd.func54, Tryd.ntmps54
    try go_wp2_with (first | ((with_reducible refine gate_dst (N := 1) rfl ?_); refine box_event ?hg (N := 1) ?hd (cs := #[.slice A0_0 l0_0.length c0_0, .int .i64 a0_1, .int .i64 a0_2]) (t := 54) ?hr ?_; (case hd => rfl); (case hg => rfl); (case hr => first | (go_simp; done) | (go_simp; rfl)); intro gb817 hg w4 hbox hb; have n0_ := Aside0.mk (below_step (by repeat (first | (with_reducible first | exact HB.out | apply below_alloc | apply pw_below_drewN | apply below_drew1) | exact HB.out)) hb); have n1_ := Aside0.mk (hbox); have n2_ := Aside0.mk ((by rw [hg]; exact (below_size (by repeat (first | (with_reducible first | exact HB.out | apply below_alloc | apply pw_below_drewN | apply below_drew1) | exact HB.out))) : w.heap.size ≤ gb817)); have n3_ := Aside0.mk ((by rw [hg]; exact (below_size (by repeat (first | (with_reducible first | exact HB.out | apply below_alloc | apply pw_below_drewN | apply below_drew1) | exact HB.out))) : w.heap.size ≤ gb817)); clear HB; have HB := n0_; have BK817 := n1_; have GW817 := n2_; have GE817 := n3_; clear n0_ n1_ n2_ n3_; clear hb hbox hg))
    have n0_ := Aside0.mk (blk_drew BK817.out)
    have n1_ := Aside0.mk (below_drew1 HB.out)
    clear BK817
    clear HB
    have BK817 := n0_
    have HB := n1_
    clear n0_ n1_
    refine start_ (n := 8) (S := fun w' => w'.cell? ⟨gb817, 0, none⟩ = some (.slice A0_0 l0_0.length c0_0) ∧ w'.cell? ⟨gb817, 1, none⟩ = some (.int .i64 a0_1) ∧ w'.cell? ⟨gb817, 2, none⟩ = some (.int .i64 a0_2)) (ds := []) #[false, false, false, false, false, false, false, false] (by kernel_rfl) rfl rfl ⟨(blk_cell BK817.out 0).trans rfl, (blk_cell BK817.out 1).trans rfl, (blk_cell BK817.out 2).trans rfl⟩ (fun hHeld => ?_); refine with_tabW selection_Start.tab1 selection_Start.bits1 (fun HT_ HW_ => ?_)
    generalize w4.drew = w5 at BK817 HB hHeld ⊢
    refine pure_ (i := 0) (N := some 3) (v := ?_) (a' := ?_) #[true, false, false, false, false, false, false, false] rfl rfl (any_of HT_.out (by kernel_rfl)) (fun _ _ _ h => h) (Or.inl ⟨by rfl, ?_⟩) ?_ ?_
    rotate_left
    · intro w'
      go_simp
      first | with_reducible rfl | (rw [own_len_N ?hl_ ?hu_]; (case hl_ => assumption); (case hu_ => kernel_rfl); (try with_reducible rfl)) | (rw [own_len_R ?hl_ ?hu_]; (case hl_ => assumption); (case hu_ => kernel_rfl); (try with_reducible rfl))
    rotate_left
    · simp only [Act.put, List.setIfInBounds_toArray, List.set_cons_zero, List.set_cons_succ, i64_w, i32_w]
      rfl
    refine pure_ (i := 3) (N := some 6) (v := ?_) (a' := ?_) #[true, false, false, true, false, false, false, false] rfl rfl (any_of HT_.out (by kernel_rfl)) (fun _ _ _ h => h) (Or.inl ⟨by rfl, ?_⟩) ?_ ?_
    rotate_left
    · intro w'
      go_simp
      first | with_reducible rfl | (rw [own_len_N ?hl_ ?hu_]; (case hl_ => assumption); (case hu_ => kernel_rfl); (try with_reducible rfl)) | (rw [own_len_R ?hl_ ?hu_]; (case hl_ => assumption); (case hu_ => kernel_rfl); (try with_reducible rfl))
    rotate_left
    · simp only [Act.put, List.setIfInBounds_toArray, List.set_cons_zero, List.set_cons_succ, i64_w, i32_w]
      rfl
    refine take_ (i := 1) (N := some 4) (v := ?_) (a' := ?_) #[true, true, false, true, false, false, false, false] rfl rfl (take_ofW HT_.out HW_.out (by kernel_rfl)) (fun _ _ _ h => h) (Or.inl ⟨by rfl, ?_⟩) hHeld ?_ ?_
    rotate_left
    · rintro w' ⟨s0, s1, s2⟩
      go_simp
      with_reducible rfl
    rotate_left
    · simp only [Act.put, List.setIfInBounds_toArray, List.set_cons_zero, List.set_cons_succ, i64_w, i32_w]
      rfl
    refine take_ (i := 4) (N := some 7) (v := ?_) (a' := ?_) #[true, true, false, true, true, false, false, false] rfl rfl (take_ofW HT_.out HW_.out (by kernel_rfl)) (fun _ _ _ h => h) (Or.inl ⟨by rfl, ?_⟩) hHeld ?_ ?_
    rotate_left
    · rintro w' ⟨s0, s1, s2⟩
      go_simp
      with_reducible rfl
    rotate_left
    · simp only [Act.put, List.setIfInBounds_toArray, List.set_cons_zero, List.set_cons_succ, i64_w, i32_w]
      rfl
    refine join_ (σ := Value × Value) 2 #[true, true, true, true, true, true, false, false] (fun s_ => [(5, s_.1), (8, s_.2)]) (fun s_ w' => (w'.cell? ⟨gb817, 0, none⟩ = some (.slice A0_0 l0_0.length c0_0) ∧ w'.cell? ⟨gb817, 1, none⟩ = some (.int .i64 a0_1) ∧ w'.cell? ⟨gb817, 2, none⟩ = some (.int .i64 a0_2)) ∧ (Kd.R (Kd.int .i64) 3 w' w.heap.size (fun k_ => some k_ ≠ (s_.2 : Value).ownBlock) s_.1 t818) ∧ (Kd.R (Kd.int .i64) 3 w' w.heap.size (fun k_ => some k_ ≠ (s_.1 : Value).ownBlock) s_.2 y821) ∧ (w'.heap[gb817]? = some (.cells #[.slice A0_0 l0_0.length c0_0, .int .i64 a0_1, .int .i64 a0_2] 54 (0, 0))) ∧ (Below w.heap.size w w')) ?_ ?_
    rotate_left
    · intro hCont
      refine two_ (i := 2) (j := 5) (Ni := some 5) (Nj := some 8) #[true, true, true, true, true, false, false, false] #[true, true, false, true, true, true, false, false] rfl rfl rfl rfl (two_of HT_.out (by kernel_rfl)) (by decide) (by decide) (fun K hK => ?_) (fun K hK => ?_)
      · skip
        refine goes_ Tryd.func81 (by kernel_rfl) rfl #[.slice A0_0 l0_0.length c0_0] (by rfl) rfl rfl (by (try simp only [List.map_toArray, List.map_cons, List.map_nil]); first | done | rfl | (simp only [List.length_drop, List.length_take]; rfl)) ?_
        with_reducible refine (slices_Clone_int_int.calls _ _ l0_0 t818 _ ?side1 ?side2 A2.out).mono ?_
        (case side1 => repeat (first | exact (Kd.C_below HR0_0.out HB.out) | (with_reducible refine Kd.C_alloc ?_ _) | (with_reducible refine Kd.C_drewN ?_ _) | (with_reducible refine Kd.C_drew ?_)))
        (case side2 => exact HC0_0.out)
        rintro e w6 ⟨v819, rfl, ho0, hb⟩
        refine ⟨_, rfl, ?_⟩
        have n0_ := Aside0.mk (Kd.R_lower ho0 (below_size (by repeat (first | (with_reducible first | exact HB.out | apply below_alloc | apply pw_below_drewN | apply below_drew1 | refine below_set ?_ GE817.out) | exact HB.out))))
        have n1_ := Aside0.mk (blk_below (g := gb817) (o := .cells #[.slice A0_0 l0_0.length c0_0, .int .i64 a0_1, .int .i64 a0_2] 54 (0, 0)) (by (with_reducible repeat (first | refine blk_drewN ?_ _ | refine blk_drew ?_ | refine blk_alloc ?_ _)); exact BK817.out) hb)
        have n2_ := Aside0.mk (below_step (by repeat (first | (with_reducible first | exact HB.out | apply below_alloc | apply pw_below_drewN | apply below_drew1 | refine below_set ?_ GE817.out) | exact HB.out)) hb)
        clear BK817
        clear HB
        have HO820 := n0_
        have BK817 := n1_
        have HB := n2_
        clear n0_ n1_ n2_
        (try clear hb)
        (try clear hb2)
        (try clear hk)
        (try clear hi)
        (try clear ho0)
        refine hK.out _ _ ⟨(blk_cell BK817.out 0).trans rfl, (blk_cell BK817.out 1).trans rfl, (blk_cell BK817.out 2).trans rfl⟩ (fun hHeld => ?_)
        clear hK K
        refine norm_ (a' := ?_) ?_ ?_
        rotate_left
        · show Act.put _ (some 5) _ = _
          simp only [Act.put, List.setIfInBounds_toArray, List.set_cons_zero, List.set_cons_succ, i64_w, i32_w]
          rfl
        refine one_ (i := 5) (N := some 8) #[true, true, true, true, true, true, false, false] rfl rfl (one_of HT_.out (by kernel_rfl)) (by decide) (fun K hK => ?_)
        refine Kd.R_lit_step (Kd.int .i64) _ 3 ?hg (N := 8) ?hd (xs := ([a0_1] : List Int)) (inner := [.int .i64 a0_1]) (ok := fun _ => True) (okp := fun _ => True) ?hr ?hp (fun _ hk => hk) trivial (Below.refl _ _) (Nat.le_refl _) (by simp) ?_; (case hd => rfl); (case hg => rfl); (case hr => first | (go_simp; done) | (go_simp; rfl)); (case hp => exact (Reps.one (show Kd.M (Kd.int .i64) _ _ _ a0_1 [.int .i64 a0_1] from rfl) (Reps.none _ _)))
        intro v822 w7 ho8 hb hg_ hnew_
        clear hg_ hnew_
        (first | rw [← Ny821.out] at ho8 | (simp only [Int.reduceToNat] at ho8; rw [← Ny821.out] at ho8))
        have n0_ := Aside0.mk (Kd.R_elder' (by (with_reducible repeat (first | apply Kd.R_alloc | apply Kd.R_drewN | apply Kd.R_drew)); exact HO820.out) (Kd.R_base ho8) hb)
        have n1_ := Aside0.mk (Kd.R_lower (Kd.R_new' ho8 (Kd.R_lt (by (with_reducible repeat (first | apply Kd.R_alloc | apply Kd.R_drewN | apply Kd.R_drew)); exact HO820.out))) (below_size (by repeat (first | (with_reducible first | exact HB.out | apply below_alloc | apply pw_below_drewN | apply below_drew1 | refine below_set ?_ GE817.out) | exact HB.out))))
        have n2_ := Aside0.mk (blk_below (g := gb817) (o := .cells #[.slice A0_0 l0_0.length c0_0, .int .i64 a0_1, .int .i64 a0_2] 54 (0, 0)) (by (with_reducible repeat (first | refine blk_drewN ?_ _ | refine blk_drew ?_ | refine blk_alloc ?_ _)); exact BK817.out) hb)
        have n3_ := Aside0.mk (below_step (by repeat (first | (with_reducible first | exact HB.out | apply below_alloc | apply pw_below_drewN | apply below_drew1 | refine below_set ?_ GE817.out) | exact HB.out)) hb)
        clear HO820
        clear BK817
        clear HB
        have HO820 := n0_
        have HO823 := n1_
        have BK817 := n2_
        have HB := n3_
        clear n0_ n1_ n2_ n3_
        clear hb ho8
        refine hK.out _ _ ⟨(blk_cell BK817.out 0).trans rfl, (blk_cell BK817.out 1).trans rfl, (blk_cell BK817.out 2).trans rfl⟩ (fun hHeld => ?_)
        clear hK K
        refine norm_ (a' := ?_) ?_ ?_
        rotate_left
        · show Act.put _ (some 8) _ = _
          simp only [Act.put, List.setIfInBounds_toArray, List.set_cons_zero, List.set_cons_succ, i64_w, i32_w]
          rfl
        exact norm_ (by simp only [putAll, Act.put, List.setIfInBounds_toArray, List.set_cons_zero, List.set_cons_succ]) (hCont (v819, v822) _ ⟨hHeld, (by (with_reducible repeat (first | apply Kd.R_alloc | apply Kd.R_drewN | apply Kd.R_drew)); exact Kd.R_mono HO820.out (fun _ hk => hk.2)), (by (with_reducible repeat (first | apply Kd.R_alloc | apply Kd.R_drewN | apply Kd.R_drew)); exact Kd.R_mono HO823.out (fun _ hk => hk.2)), (by (with_reducible repeat (first | refine blk_drewN ?_ _ | refine blk_drew ?_ | refine blk_alloc ?_ _)); exact BK817.out), (by repeat (first | (with_reducible first | exact HB.out | apply below_alloc | apply pw_below_drewN | apply below_drew1 | refine below_set ?_ GE817.out) | exact HB.out))⟩)
      · skip
        refine Kd.R_lit_step (Kd.int .i64) _ 3 ?hg (N := 8) ?hd (xs := ([a0_1] : List Int)) (inner := [.int .i64 a0_1]) (ok := fun _ => True) (okp := fun _ => True) ?hr ?hp (fun _ hk => hk) trivial (Below.refl _ _) (Nat.le_refl _) (by simp) ?_; (case hd => rfl); (case hg => rfl); (case hr => first | (go_simp; done) | (go_simp; rfl)); (case hp => exact (Reps.one (show Kd.M (Kd.int .i64) _ _ _ a0_1 [.int .i64 a0_1] from rfl) (Reps.none _ _)))
        intro v822 w6 ho7 hb hg_ hnew_
        clear hg_ hnew_
        (first | rw [← Ny821.out] at ho7 | (simp only [Int.reduceToNat] at ho7; rw [← Ny821.out] at ho7))
        have n0_ := Aside0.mk (Kd.R_lower ho7 (below_size (by repeat (first | (with_reducible first | exact HB.out | apply below_alloc | apply pw_below_drewN | apply below_drew1 | refine below_set ?_ GE817.out) | exact HB.out))))
        have n1_ := Aside0.mk (blk_below (g := gb817) (o := .cells #[.slice A0_0 l0_0.length c0_0, .int .i64 a0_1, .int .i64 a0_2] 54 (0, 0)) (by (with_reducible repeat (first | refine blk_drewN ?_ _ | refine blk_drew ?_ | refine blk_alloc ?_ _)); exact BK817.out) hb)
        have n2_ := Aside0.mk (below_step (by repeat (first | (with_reducible first | exact HB.out | apply below_alloc | apply pw_below_drewN | apply below_drew1 | refine below_set ?_ GE817.out) | exact HB.out)) hb)
        clear BK817
        clear HB
        have HO823 := n0_
        have BK817 := n1_
        have HB := n2_
        clear n0_ n1_ n2_
        clear hb ho7
        refine hK.out _ _ ⟨(blk_cell BK817.out 0).trans rfl, (blk_cell BK817.out 1).trans rfl, (blk_cell BK817.out 2).trans rfl⟩ (fun hHeld => ?_)
        clear hK K
        refine norm_ (a' := ?_) ?_ ?_
        rotate_left
        · show Act.put _ (some 8) _ = _
          simp only [Act.put, List.setIfInBounds_toArray, List.set_cons_zero, List.set_cons_succ, i64_w, i32_w]
          rfl
        refine one_ (i := 2) (N := some 5) #[true, true, true, true, true, true, false, false] rfl rfl (one_of HT_.out (by kernel_rfl)) (by decide) (fun K hK => ?_)
        refine goes_ Tryd.func81 (by kernel_rfl) rfl #[.slice A0_0 l0_0.length c0_0] (by rfl) rfl rfl (by (try simp only [List.map_toArray, List.map_cons, List.map_nil]); first | done | rfl | (simp only [List.length_drop, List.length_take]; rfl)) ?_
        with_reducible refine (slices_Clone_int_int.calls _ _ l0_0 t818 _ ?side1 ?side2 A2.out).mono ?_
        (case side1 => repeat (first | exact (Kd.C_below HR0_0.out HB.out) | (with_reducible refine Kd.C_alloc ?_ _) | (with_reducible refine Kd.C_drewN ?_ _) | (with_reducible refine Kd.C_drew ?_)))
        (case side2 => exact HC0_0.out)
        rintro e w8 ⟨v819, rfl, ho0, hb⟩
        refine ⟨_, rfl, ?_⟩
        have n0_ := Aside0.mk (Kd.R_elder' (by (with_reducible repeat (first | apply Kd.R_alloc | apply Kd.R_drewN | apply Kd.R_drew)); exact HO823.out) (Kd.R_base ho0) hb)
        have n1_ := Aside0.mk (Kd.R_lower (Kd.R_new' ho0 (Kd.R_lt (by (with_reducible repeat (first | apply Kd.R_alloc | apply Kd.R_drewN | apply Kd.R_drew)); exact HO823.out))) (below_size (by repeat (first | (with_reducible first | exact HB.out | apply below_alloc | apply pw_below_drewN | apply below_drew1 | refine below_set ?_ GE817.out) | exact HB.out))))
        have n2_ := Aside0.mk (blk_below (g := gb817) (o := .cells #[.slice A0_0 l0_0.length c0_0, .int .i64 a0_1, .int .i64 a0_2] 54 (0, 0)) (by (with_reducible repeat (first | refine blk_drewN ?_ _ | refine blk_drew ?_ | refine blk_alloc ?_ _)); exact BK817.out) hb)
        have n3_ := Aside0.mk (below_step (by repeat (first | (with_reducible first | exact HB.out | apply below_alloc | apply pw_below_drewN | apply below_drew1 | refine below_set ?_ GE817.out) | exact HB.out)) hb)
        clear HO823
        clear BK817
        clear HB
        have HO823 := n0_
        have HO820 := n1_
        have BK817 := n2_
        have HB := n3_
        clear n0_ n1_ n2_ n3_
        (try clear hb)
        (try clear hb2)
        (try clear hk)
        (try clear hi)
        (try clear ho0)
        refine hK.out _ _ ⟨(blk_cell BK817.out 0).trans rfl, (blk_cell BK817.out 1).trans rfl, (blk_cell BK817.out 2).trans rfl⟩ (fun hHeld => ?_)
        clear hK K
        refine norm_ (a' := ?_) ?_ ?_
        rotate_left
        · show Act.put _ (some 5) _ = _
          simp only [Act.put, List.setIfInBounds_toArray, List.set_cons_zero, List.set_cons_succ, i64_w, i32_w]
          rfl
        exact norm_ (by simp only [putAll, Act.put, List.setIfInBounds_toArray, List.set_cons_zero, List.set_cons_succ]) (hCont (v819, v822) _ ⟨hHeld, (by (with_reducible repeat (first | apply Kd.R_alloc | apply Kd.R_drewN | apply Kd.R_drew)); exact Kd.R_mono HO820.out (fun _ hk => hk.2)), (by (with_reducible repeat (first | apply Kd.R_alloc | apply Kd.R_drewN | apply Kd.R_drew)); exact Kd.R_mono HO823.out (fun _ hk => hk.2)), (by (with_reducible repeat (first | refine blk_drewN ?_ _ | refine blk_drew ?_ | refine blk_alloc ?_ _)); exact BK817.out), (by repeat (first | (with_reducible first | exact HB.out | apply below_alloc | apply pw_below_drewN | apply below_drew1 | refine below_set ?_ GE817.out) | exact HB.out))⟩)
    rintro ⟨v819, v822⟩ w9 ⟨hS_, h0_, h1_, h2_, h3_⟩
    have n0_ : Aside0 (Kd.R (Kd.int .i64) 3 w9 w.heap.size (fun k_ => some k_ ≠ (v822 : Value).ownBlock) v819 t818) := ⟨h0_⟩
    have n1_ : Aside0 (Kd.R (Kd.int .i64) 3 w9 w.heap.size (fun k_ => some k_ ≠ (v819 : Value).ownBlock) v822 y821) := ⟨h1_⟩
    have n2_ : Aside0 (w9.heap[gb817]? = some (.cells #[.slice A0_0 l0_0.length c0_0, .int .i64 a0_1, .int .i64 a0_2] 54 (0, 0))) := ⟨h2_⟩
    have n3_ : Aside0 (Below w.heap.size w w9) := ⟨h3_⟩
    clear BK817
    clear HB
    clear h0_ h1_ h2_ h3_
    have HO820 := n0_
    have HO823 := n1_
    have BK817 := n2_
    have HB := n3_
    clear n0_ n1_ n2_ n3_
    have hHeld : w9.cell? ⟨gb817, 0, none⟩ = some (.slice A0_0 l0_0.length c0_0) ∧ w9.cell? ⟨gb817, 1, none⟩ = some (.int .i64 a0_1) ∧ w9.cell? ⟨gb817, 2, none⟩ = some (.int .i64 a0_2) := hS_
    obtain ⟨Ao11, co11, eo11⟩ := Kd.R_slice HO823.out
    (first | subst eo11 | (injection eo11 with f1_ f2_ f3_; have f4_ := f1_.symm; have f5_ := f3_.symm; clear f1_ f2_ f3_; subst f4_; subst f5_))
    refine norm_ (a' := ?_) ?_ ?_
    rotate_left
    · simp only [putAll, Act.put, List.setIfInBounds_toArray, List.set_cons_zero, List.set_cons_succ]
      rfl
    refine one_ (i := 6) (N := some 9) #[true, true, true, true, true, true, true, false] rfl rfl (one_of HT_.out (by kernel_rfl)) (by decide) (fun K hK => ?_)
    refine Kd.R_append_rows_step (Kd.int .i64) (w0 := w) w.heap.size (by rfl) (.tmp 5) (.tmp 8) 26 3 (.int .i64 0) 8 rfl Tryd.underlying26 info3 rfl (by decide) (by omega) v819 t818 y821 _ _ _ (fun k_ => some k_ ≠ (.slice Ao11 y821.length co11 : Value).ownBlock) (fun _ => False) rfl rfl ?aO ?aR (fun _ _ h => h) (fun _ h => h.elim) ?aF ?aB ?aS ?aL ?_
    (case aR => repeat (first | exact (Kd.R_reads' HO823.out).2.2 | (with_reducible refine Kd.C_alloc ?_ _) | (with_reducible refine Kd.C_drewN ?_ _) | (with_reducible refine Kd.C_drew ?_)))
    (case aB => exact (by repeat (first | (with_reducible first | exact HB.out | apply below_alloc | apply pw_below_drewN | apply below_drew1 | refine below_set ?_ GE817.out) | exact HB.out)))
    (case aF => exact (fun k_ hk => Kd.fresh' (Kd.R_lt (by (with_reducible repeat (first | apply Kd.R_alloc | apply Kd.R_drewN | apply Kd.R_drew)); exact HO823.out)) k_ hk))
    (case aO => exact (by (with_reducible repeat (first | apply Kd.R_alloc | apply Kd.R_drewN | apply Kd.R_drew)); exact HO820.out))
    (case aS => exact (below_size (by repeat (first | (with_reducible first | exact HB.out | apply below_alloc | apply pw_below_drewN | apply below_drew1 | refine below_set ?_ GE817.out) | exact HB.out))))
    (case aL => have := LMc3.out; omega)
    intro v825 w10 ho hb hg hat
    rw [← Ny824.out] at ho
    have n0_ := Aside0.mk (blk_grown (g := gb817) (o := .cells #[.slice A0_0 l0_0.length c0_0, .int .i64 a0_1, .int .i64 a0_2] 54 (0, 0)) (by (with_reducible repeat (first | refine blk_drewN ?_ _ | refine blk_drew ?_ | refine blk_alloc ?_ _)); exact BK817.out) hg (Kd.R_ne HO820.out BK817.out (by decide)))
    have n1_ := Aside0.mk (Kd.R_after (ok := (fun _ => True)) (by (with_reducible repeat (first | apply Kd.R_alloc | apply Kd.R_drewN | apply Kd.R_drew)); exact Kd.R_mono HO823.out (fun _ hk => ⟨trivial, hk⟩)) hg hat)
    have n2_ := Aside0.mk (hb)
    have n3_ := Aside0.mk (ho)
    clear BK817
    clear HO823
    clear HB
    clear HO820
    have BK817 := n0_
    have HO823 := n1_
    have HB := n2_
    have HO826 := n3_
    clear n0_ n1_ n2_ n3_
    clear ho hb hg hat
    refine hK.out _ _ ⟨(blk_cell BK817.out 0).trans rfl, (blk_cell BK817.out 1).trans rfl, (blk_cell BK817.out 2).trans rfl⟩ (fun hHeld => ?_)
    clear hK K
    refine norm_ (a' := ?_) ?_ ?_
    rotate_left
    · show Act.put _ (some 9) _ = _
      simp only [Act.put, List.setIfInBounds_toArray, List.set_cons_zero, List.set_cons_succ, i64_w, i32_w]
      rfl
    refine pure_ (i := 7) (N := some 2) (v := ?_) (a' := ?_) #[true, true, true, true, true, true, true, true] rfl rfl (any_of HT_.out (by kernel_rfl)) (fun _ _ _ h => h) (Or.inl ⟨by rfl, ?_⟩) ?_ ?_
    rotate_left
    · intro w'
      go_simp
      first | with_reducible rfl | (rw [own_len_N ?hl_ ?hu_]; (case hl_ => assumption); (case hu_ => kernel_rfl); (try with_reducible rfl)) | (rw [own_len_R ?hl_ ?hu_]; (case hl_ => assumption); (case hu_ => kernel_rfl); (try with_reducible rfl))
    rotate_left
    · simp only [Act.put, List.setIfInBounds_toArray, List.set_cons_zero, List.set_cons_succ, i64_w, i32_w]
      rfl
    refine done_ (done_of HT_.out (by kernel_rfl)) ?_
    try go_wp2
    go_ret
    exact ⟨_, by first | rfl | (simp [errW_none, errW_some] <;> rfl) | (simp [*, errW_none, errW_some] <;> rfl), by (with_reducible repeat (first | apply Kd.R_alloc | apply Kd.R_drewN | apply Kd.R_drew)); exact Kd.R_mono HO826.out (fun _ hk => trivial), by repeat (first | (with_reducible first | exact HB.out | apply below_alloc | apply pw_below_drewN | apply below_drew1 | refine below_set ?_ GE817.out) | exact HB.out)⟩
  · rw [if_neg c3] at H
    exact absurd H (by simp)
end Go.Proofs.YtagkhoeidjlahaaDoor.G
namespace Go.Proofs.YtagkhoeidjlahaaDoor.G
open Go.RowKit Go.Proofs.YtagkhoeidjlahaaDoorW.PrintWords Go.Proofs.YtagkhoeidjlahaaDoorW.PrintLast Go.Proofs.YtagkhoeidjlahaaDoorW.PrintMore
attribute [local go_sem] max2_int min2_int max_two min_two max_three min_three max_four min_four
set_option linter.unusedVariables false
set_option linter.unusedSimpArgs false
def vinculumref11_Start.f (l0_0 : List Int) (a0_1 : Int) (a0_2 : Int) : Option (List Int) := (some (([] : List Int) : List Int)).bind fun y828 => (if y828.length + l0_0.length < 17592186044416 then ((some (y828 ++ l0_0 : List Int)).bind fun y831 => ((some (([a0_1] : List Int) : List Int)).bind fun y834 => (if y831.length + y834.length < 17592186044416 then (some (y831 ++ y834)) else (none)))) else (none))
def vinculumref11_Start.T1 : Bool × List (List Nat × List Nat) := (true, [([], []), ([], []), ([1], [1]), ([0, 2], [0, 2]), ([], []), ([4], [4]), ([5], [5]), ([3, 6, 3], [3, 6]), ([7, 7, 0, 1, 2, 3, 4, 5, 6, 7], [7])])
def vinculumref11_Start.B1 : List Nat := [0, 0, 2, 7, 0, 16, 48, 127, 255]
theorem vinculumref11_Start.tab1 : rtab .any (opsOf Tryd.f55 1) = vinculumref11_Start.T1 := by kernel_rfl
theorem vinculumref11_Start.bits1 : waitsOk vinculumref11_Start.T1.2 vinculumref11_Start.B1 = true := by kernel_rfl
set_option maxHeartbeats 8000000 in
set_option maxRecDepth 100000 in
theorem vinculumref11_Start.calls (A0_0 : Option Addr) (c0_0 : Nat) (l0_0 : List Int) (a0_1 : Int) (a0_2 : Int) (r : List Int) (w : World) (hr0_0 : Kd.C (Kd.int .i64) w A0_0 l0_0.length l0_0) (hc0_0 : l0_0.length ≤ c0_0) (h : vinculumref11_Start.f l0_0 a0_1 a0_2 = some r) :
    Calls Tryd.prog 55 #[.agg #[.slice A0_0 l0_0.length c0_0, .int .i64 a0_1, .int .i64 a0_2]] w fun e w' => ∃ v0_ : Value, e = .returned (v0_) ∧ Kd.R (Kd.int .i64) 3 w' w.heap.size (fun _ => True) v0_ r ∧ Below w.heap.size w w' := by
  have hu54 := Tryd.underlying54
  have HR0_0 := Aside0.mk hr0_0
  have HC0_0 := Aside0.mk hc0_0
  clear hr0_0 hc0_0
  have HB := Aside0.mk (Below.refl w.heap.size w)
  have H : ((some (([] : List Int) : List Int)).bind fun y828 => (if y828.length + l0_0.length < 17592186044416 then ((some (y828 ++ l0_0 : List Int)).bind fun y831 => ((some (([a0_1] : List Int) : List Int)).bind fun y834 => (if y831.length + y834.length < 17592186044416 then (some (y831 ++ y834)) else (none)))) else (none))) = some r := h
  clear h
  obtain ⟨y828, hy828⟩ : ∃ y_ : List Int, y_ = (([] : List Int)) := ⟨_, rfl⟩
  replace H : (if y828.length + l0_0.length < 17592186044416 then ((some (y828 ++ l0_0 : List Int)).bind fun y831 => ((some (([a0_1] : List Int) : List Int)).bind fun y834 => (if y831.length + y834.length < 17592186044416 then (some (y831 ++ y834)) else (none)))) else (none)) = some r := by first | (rw [hy828]; with_reducible exact H) | (have H2_ := (Option.bind_some _ _).symm.trans H; rw [hy828]; with_reducible exact H2_) | (have H2_ := (Option.bind_some _ _).symm.trans H; with_reducible exact H2_) | with_reducible exact H | (rw [hy828]; exact H) | exact H
  have Ny828 := Aside0.mk hy828
  clear hy828
  by_cases c2 : y828.length + l0_0.length < 17592186044416
  · rw [if_pos c2] at H
    have LMc2 := Aside0.mk c2
    clear c2
    obtain ⟨y831, hy831⟩ : ∃ y_ : List Int, y_ = (y828 ++ l0_0) := ⟨_, rfl⟩
    replace H : ((some (([a0_1] : List Int) : List Int)).bind fun y834 => (if y831.length + y834.length < 17592186044416 then (some (y831 ++ y834)) else (none))) = some r := by first | (rw [hy831]; with_reducible exact H) | (have H2_ := (Option.bind_some _ _).symm.trans H; rw [hy831]; with_reducible exact H2_) | (have H2_ := (Option.bind_some _ _).symm.trans H; with_reducible exact H2_) | with_reducible exact H | (rw [hy831]; exact H) | exact H
    have Ny831 := Aside0.mk hy831
    clear hy831
    obtain ⟨y834, hy834⟩ : ∃ y_ : List Int, y_ = (([a0_1] : List Int)) := ⟨_, rfl⟩
    replace H : (if y831.length + y834.length < 17592186044416 then (some (y831 ++ y834)) else (none)) = some r := by first | (rw [hy834]; with_reducible exact H) | (have H2_ := (Option.bind_some _ _).symm.trans H; rw [hy834]; with_reducible exact H2_) | (have H2_ := (Option.bind_some _ _).symm.trans H; with_reducible exact H2_) | with_reducible exact H | (rw [hy834]; exact H) | exact H
    have Ny834 := Aside0.mk hy834
    clear hy834
    by_cases c3 : y831.length + y834.length < 17592186044416
    · rw [if_pos c3] at H
      have LMc3 := Aside0.mk c3
      clear c3
      obtain ⟨y837, hy837⟩ : ∃ y_ : List Int, y_ = (y831 ++ y834) := ⟨_, rfl⟩
      replace H : (some y837) = some r := by first | (rw [hy837]; with_reducible exact H) | (have H2_ := (Option.bind_some _ _).symm.trans H; rw [hy837]; with_reducible exact H2_) | (have H2_ := (Option.bind_some _ _).symm.trans H; with_reducible exact H2_) | with_reducible exact H | (rw [hy837]; exact H) | exact H
      have Ny837 := Aside0.mk hy837
      clear hy837
      obtain rfl := Option.some.inj H
      go_enter Tryd.func55, Tryd.ntmps55
      try go_wp2_with (first | ((with_reducible refine gate_dst (N := 1) rfl ?_); refine box_event ?hg (N := 1) ?hd (cs := #[.slice A0_0 l0_0.length c0_0, .int .i64 a0_1, .int .i64 a0_2]) (t := 54) ?hr ?_; (case hd => rfl); (case hg => rfl); (case hr => first | (go_simp; done) | (go_simp; rfl)); intro gb827 hg w4 hbox hb; have n0_ := Aside0.mk (below_step (by repeat (first | (with_reducible first | exact HB.out | apply below_alloc | apply pw_below_drewN | apply below_drew1) | exact HB.out)) hb); have n1_ := Aside0.mk (hbox); have n2_ := Aside0.mk ((by rw [hg]; exact (below_size (by repeat (first | (with_reducible first | exact HB.out | apply below_alloc | apply pw_below_drewN | apply below_drew1) | exact HB.out))) : w.heap.size ≤ gb827)); have n3_ := Aside0.mk ((by rw [hg]; exact (below_size (by repeat (first | (with_reducible first | exact HB.out | apply below_alloc | apply pw_below_drewN | apply below_drew1) | exact HB.out))) : w.heap.size ≤ gb827)); clear HB; have HB := n0_; have BK827 := n1_; have GW827 := n2_; have GE827 := n3_; clear n0_ n1_ n2_ n3_; clear hb hbox hg))
      have n0_ := Aside0.mk (blk_drew BK827.out)
      have n1_ := Aside0.mk (below_drew1 HB.out)
      clear BK827
      clear HB
      have BK827 := n0_
      have HB := n1_
      clear n0_ n1_
      refine start_ (n := 9) (S := fun w' => w'.cell? ⟨gb827, 0, none⟩ = some (.slice A0_0 l0_0.length c0_0) ∧ w'.cell? ⟨gb827, 1, none⟩ = some (.int .i64 a0_1) ∧ w'.cell? ⟨gb827, 2, none⟩ = some (.int .i64 a0_2)) (ds := []) #[false, false, false, false, false, false, false, false, false] (by kernel_rfl) rfl rfl ⟨(blk_cell BK827.out 0).trans rfl, (blk_cell BK827.out 1).trans rfl, (blk_cell BK827.out 2).trans rfl⟩ (fun hHeld => ?_); refine with_tabW vinculumref11_Start.tab1 vinculumref11_Start.bits1 (fun HT_ HW_ => ?_)
      generalize w4.drew = w5 at BK827 HB hHeld ⊢
      refine pure_ (i := 1) (N := some 4) (v := ?_) (a' := ?_) #[false, true, false, false, false, false, false, false, false] rfl rfl (any_of HT_.out (by kernel_rfl)) (fun _ _ _ h => h) (Or.inl ⟨by rfl, ?_⟩) ?_ ?_
      rotate_left
      · intro w'
        go_simp
        first | with_reducible rfl | (rw [own_len_N ?hl_ ?hu_]; (case hl_ => assumption); (case hu_ => kernel_rfl); (try with_reducible rfl)) | (rw [own_len_R ?hl_ ?hu_]; (case hl_ => assumption); (case hu_ => kernel_rfl); (try with_reducible rfl))
      rotate_left
      · simp only [Act.put, List.setIfInBounds_toArray, List.set_cons_zero, List.set_cons_succ, i64_w, i32_w]
        rfl
      refine pure_ (i := 4) (N := some 7) (v := ?_) (a' := ?_) #[false, true, false, false, true, false, false, false, false] rfl rfl (any_of HT_.out (by kernel_rfl)) (fun _ _ _ h => h) (Or.inl ⟨by rfl, ?_⟩) ?_ ?_
      rotate_left
      · intro w'
        go_simp
        first | with_reducible rfl | (rw [own_len_N ?hl_ ?hu_]; (case hl_ => assumption); (case hu_ => kernel_rfl); (try with_reducible rfl)) | (rw [own_len_R ?hl_ ?hu_]; (case hl_ => assumption); (case hu_ => kernel_rfl); (try with_reducible rfl))
      rotate_left
      · simp only [Act.put, List.setIfInBounds_toArray, List.set_cons_zero, List.set_cons_succ, i64_w, i32_w]
        rfl
      refine take_ (i := 2) (N := some 5) (v := ?_) (a' := ?_) #[false, true, true, false, true, false, false, false, false] rfl rfl (take_ofW HT_.out HW_.out (by kernel_rfl)) (fun _ _ _ h => h) (Or.inl ⟨by rfl, ?_⟩) hHeld ?_ ?_
      rotate_left
      · rintro w' ⟨s0, s1, s2⟩
        go_simp
        with_reducible rfl
      rotate_left
      · simp only [Act.put, List.setIfInBounds_toArray, List.set_cons_zero, List.set_cons_succ, i64_w, i32_w]
        rfl
      refine take_ (i := 5) (N := some 8) (v := ?_) (a' := ?_) #[false, true, true, false, true, true, false, false, false] rfl rfl (take_ofW HT_.out HW_.out (by kernel_rfl)) (fun _ _ _ h => h) (Or.inl ⟨by rfl, ?_⟩) hHeld ?_ ?_
      rotate_left
      · rintro w' ⟨s0, s1, s2⟩
        go_simp
        with_reducible rfl
      rotate_left
      · simp only [Act.put, List.setIfInBounds_toArray, List.set_cons_zero, List.set_cons_succ, i64_w, i32_w]
        rfl
      refine join_ (σ := Value × Value × Value) 2 #[true, true, true, true, true, true, true, false, false] (fun s_ => [(3, s_.1), (6, s_.2.1), (9, s_.2.2)]) (fun s_ w' => (w'.cell? ⟨gb827, 0, none⟩ = some (.slice A0_0 l0_0.length c0_0) ∧ w'.cell? ⟨gb827, 1, none⟩ = some (.int .i64 a0_1) ∧ w'.cell? ⟨gb827, 2, none⟩ = some (.int .i64 a0_2)) ∧ (Kd.R (Kd.int .i64) 3 w' w.heap.size (fun k_ => some k_ ≠ (s_.2.2 : Value).ownBlock) s_.2.1 y831) ∧ (Kd.R (Kd.int .i64) 3 w' w.heap.size (fun k_ => some k_ ≠ (s_.2.1 : Value).ownBlock) s_.2.2 y834) ∧ (w'.heap[gb827]? = some (.cells #[.slice A0_0 l0_0.length c0_0, .int .i64 a0_1, .int .i64 a0_2] 54 (0, 0))) ∧ (Below w.heap.size w w')) ?_ ?_
      rotate_left
      · intro hCont
        refine two_ (i := 0) (j := 6) (Ni := some 3) (Nj := some 9) #[true, true, true, false, true, true, false, false, false] #[false, true, true, false, true, true, true, false, false] rfl rfl rfl rfl (two_of HT_.out (by kernel_rfl)) (by decide) (by decide) (fun K hK => ?_) (fun K hK => ?_)
        · skip
          refine Kd.R_lit_step (Kd.int .i64) _ 3 ?hg (N := 3) ?hd (xs := ([] : List Int)) (inner := []) (ok := fun _ => True) (okp := fun _ => True) ?hr ?hp (fun _ hk => hk) trivial (Below.refl _ _) (Nat.le_refl _) (by simp) ?_; (case hd => rfl); (case hg => rfl); (case hr => first | (go_simp; done) | (go_simp; rfl)); (case hp => exact (Reps.none _ _))
          intro v829 w6 ho7 hb hg_ hnew_
          clear hg_ hnew_
          (first | rw [← Ny828.out] at ho7 | (simp only [Int.reduceToNat] at ho7; rw [← Ny828.out] at ho7))
          have n0_ := Aside0.mk (Kd.R_lower ho7 (below_size (by repeat (first | (with_reducible first | exact HB.out | apply below_alloc | apply pw_below_drewN | apply below_drew1 | refine below_set ?_ GE827.out) | exact HB.out))))
          have n1_ := Aside0.mk (blk_below (g := gb827) (o := .cells #[.slice A0_0 l0_0.length c0_0, .int .i64 a0_1, .int .i64 a0_2] 54 (0, 0)) (by (with_reducible repeat (first | refine blk_drewN ?_ _ | refine blk_drew ?_ | refine blk_alloc ?_ _)); exact BK827.out) hb)
          have n2_ := Aside0.mk (below_step (by repeat (first | (with_reducible first | exact HB.out | apply below_alloc | apply pw_below_drewN | apply below_drew1 | refine below_set ?_ GE827.out) | exact HB.out)) hb)
          clear BK827
          clear HB
          have HO830 := n0_
          have BK827 := n1_
          have HB := n2_
          clear n0_ n1_ n2_
          clear hb ho7
          refine hK.out _ _ ⟨(blk_cell BK827.out 0).trans rfl, (blk_cell BK827.out 1).trans rfl, (blk_cell BK827.out 2).trans rfl⟩ (fun hHeld => ?_)
          clear hK K
          refine norm_ (a' := ?_) ?_ ?_
          rotate_left
          · show Act.put _ (some 3) _ = _
            simp only [Act.put, List.setIfInBounds_toArray, List.set_cons_zero, List.set_cons_succ, i64_w, i32_w]
            rfl
          refine two_ (i := 3) (j := 6) (Ni := some 6) (Nj := some 9) #[true, true, true, true, true, true, false, false, false] #[true, true, true, false, true, true, true, false, false] rfl rfl rfl rfl (two_of HT_.out (by kernel_rfl)) (by decide) (by decide) (fun K hK => ?_) (fun K hK => ?_)
          · skip
            refine Kd.R_append_rows_step (Kd.int .i64) (w0 := w) w.heap.size (by rfl) (.tmp 3) (.tmp 5) 26 3 (.int .i64 0) 8 rfl Tryd.underlying26 info3 rfl (by decide) (by omega) v829 y828 l0_0 _ _ _ (fun _ => True) (fun _ => False) rfl rfl ?aO ?aR (fun _ _ h => h) (fun _ h => h.elim) ?aF ?aB ?aS ?aL ?_
            (case aR => repeat (first | exact (Kd.C_below HR0_0.out HB.out) | (with_reducible refine Kd.C_alloc ?_ _) | (with_reducible refine Kd.C_drewN ?_ _) | (with_reducible refine Kd.C_drew ?_)))
            (case aB => exact (by repeat (first | (with_reducible first | exact HB.out | apply below_alloc | apply pw_below_drewN | apply below_drew1 | refine below_set ?_ GE827.out) | exact HB.out)))
            (case aF => exact (fun _ _ => trivial))
            (case aO => exact (by (with_reducible repeat (first | apply Kd.R_alloc | apply Kd.R_drewN | apply Kd.R_drew)); exact HO830.out))
            (case aS => exact (below_size (by repeat (first | (with_reducible first | exact HB.out | apply below_alloc | apply pw_below_drewN | apply below_drew1 | refine below_set ?_ GE827.out) | exact HB.out))))
            (case aL => have := LMc2.out; omega)
            intro v832 w8 ho hb hg hat
            rw [← Ny831.out] at ho
            have n0_ := Aside0.mk (blk_grown (g := gb827) (o := .cells #[.slice A0_0 l0_0.length c0_0, .int .i64 a0_1, .int .i64 a0_2] 54 (0, 0)) (by (with_reducible repeat (first | refine blk_drewN ?_ _ | refine blk_drew ?_ | refine blk_alloc ?_ _)); exact BK827.out) hg (Kd.R_ne HO830.out BK827.out (by decide)))
            have n1_ := Aside0.mk (hb)
            have n2_ := Aside0.mk (ho)
            clear BK827
            clear HB
            clear HO830
            have BK827 := n0_
            have HB := n1_
            have HO833 := n2_
            clear n0_ n1_ n2_
            clear ho hb hg hat
            refine hK.out _ _ ⟨(blk_cell BK827.out 0).trans rfl, (blk_cell BK827.out 1).trans rfl, (blk_cell BK827.out 2).trans rfl⟩ (fun hHeld => ?_)
            clear hK K
            refine norm_ (a' := ?_) ?_ ?_
            rotate_left
            · show Act.put _ (some 6) _ = _
              simp only [Act.put, List.setIfInBounds_toArray, List.set_cons_zero, List.set_cons_succ, i64_w, i32_w]
              rfl
            refine one_ (i := 6) (N := some 9) #[true, true, true, true, true, true, true, false, false] rfl rfl (one_of HT_.out (by kernel_rfl)) (by decide) (fun K hK => ?_)
            refine Kd.R_lit_step (Kd.int .i64) _ 3 ?hg (N := 9) ?hd (xs := ([a0_1] : List Int)) (inner := [.int .i64 a0_1]) (ok := fun _ => True) (okp := fun _ => True) ?hr ?hp (fun _ hk => hk) trivial (Below.refl _ _) (Nat.le_refl _) (by simp) ?_; (case hd => rfl); (case hg => rfl); (case hr => first | (go_simp; done) | (go_simp; rfl)); (case hp => exact (Reps.one (show Kd.M (Kd.int .i64) _ _ _ a0_1 [.int .i64 a0_1] from rfl) (Reps.none _ _)))
            intro v835 w9 ho10 hb hg_ hnew_
            clear hg_ hnew_
            (first | rw [← Ny834.out] at ho10 | (simp only [Int.reduceToNat] at ho10; rw [← Ny834.out] at ho10))
            have n0_ := Aside0.mk (Kd.R_elder' (by (with_reducible repeat (first | apply Kd.R_alloc | apply Kd.R_drewN | apply Kd.R_drew)); exact HO833.out) (Kd.R_base ho10) hb)
            have n1_ := Aside0.mk (Kd.R_lower (Kd.R_new' ho10 (Kd.R_lt (by (with_reducible repeat (first | apply Kd.R_alloc | apply Kd.R_drewN | apply Kd.R_drew)); exact HO833.out))) (below_size (by repeat (first | (with_reducible first | exact HB.out | apply below_alloc | apply pw_below_drewN | apply below_drew1 | refine below_set ?_ GE827.out) | exact HB.out))))
            have n2_ := Aside0.mk (blk_below (g := gb827) (o := .cells #[.slice A0_0 l0_0.length c0_0, .int .i64 a0_1, .int .i64 a0_2] 54 (0, 0)) (by (with_reducible repeat (first | refine blk_drewN ?_ _ | refine blk_drew ?_ | refine blk_alloc ?_ _)); exact BK827.out) hb)
            have n3_ := Aside0.mk (below_step (by repeat (first | (with_reducible first | exact HB.out | apply below_alloc | apply pw_below_drewN | apply below_drew1 | refine below_set ?_ GE827.out) | exact HB.out)) hb)
            clear HO833
            clear BK827
            clear HB
            have HO833 := n0_
            have HO836 := n1_
            have BK827 := n2_
            have HB := n3_
            clear n0_ n1_ n2_ n3_
            clear hb ho10
            refine hK.out _ _ ⟨(blk_cell BK827.out 0).trans rfl, (blk_cell BK827.out 1).trans rfl, (blk_cell BK827.out 2).trans rfl⟩ (fun hHeld => ?_)
            clear hK K
            refine norm_ (a' := ?_) ?_ ?_
            rotate_left
            · show Act.put _ (some 9) _ = _
              simp only [Act.put, List.setIfInBounds_toArray, List.set_cons_zero, List.set_cons_succ, i64_w, i32_w]
              rfl
            exact norm_ (by simp only [putAll, Act.put, List.setIfInBounds_toArray, List.set_cons_zero, List.set_cons_succ]) (hCont (v829, v832, v835) _ ⟨hHeld, (by (with_reducible repeat (first | apply Kd.R_alloc | apply Kd.R_drewN | apply Kd.R_drew)); exact Kd.R_mono HO833.out (fun _ hk => hk.2)), (by (with_reducible repeat (first | apply Kd.R_alloc | apply Kd.R_drewN | apply Kd.R_drew)); exact Kd.R_mono HO836.out (fun _ hk => hk.2)), (by (with_reducible repeat (first | refine blk_drewN ?_ _ | refine blk_drew ?_ | refine blk_alloc ?_ _)); exact BK827.out), (by repeat (first | (with_reducible first | exact HB.out | apply below_alloc | apply pw_below_drewN | apply below_drew1 | refine below_set ?_ GE827.out) | exact HB.out))⟩)
          · skip
            refine Kd.R_lit_step (Kd.int .i64) _ 3 ?hg (N := 9) ?hd (xs := ([a0_1] : List Int)) (inner := [.int .i64 a0_1]) (ok := fun _ => True) (okp := fun _ => True) ?hr ?hp (fun _ hk => hk) trivial (Below.refl _ _) (Nat.le_refl _) (by simp) ?_; (case hd => rfl); (case hg => rfl); (case hr => first | (go_simp; done) | (go_simp; rfl)); (case hp => exact (Reps.one (show Kd.M (Kd.int .i64) _ _ _ a0_1 [.int .i64 a0_1] from rfl) (Reps.none _ _)))
            intro v835 w8 ho9 hb hg_ hnew_
            clear hg_ hnew_
            (first | rw [← Ny834.out] at ho9 | (simp only [Int.reduceToNat] at ho9; rw [← Ny834.out] at ho9))
            have n0_ := Aside0.mk (Kd.R_elder' (by (with_reducible repeat (first | apply Kd.R_alloc | apply Kd.R_drewN | apply Kd.R_drew)); exact HO830.out) (Kd.R_base ho9) hb)
            have n1_ := Aside0.mk (Kd.R_lower (Kd.R_new' ho9 (Kd.R_lt (by (with_reducible repeat (first | apply Kd.R_alloc | apply Kd.R_drewN | apply Kd.R_drew)); exact HO830.out))) (below_size (by repeat (first | (with_reducible first | exact HB.out | apply below_alloc | apply pw_below_drewN | apply below_drew1 | refine below_set ?_ GE827.out) | exact HB.out))))
            have n2_ := Aside0.mk (blk_below (g := gb827) (o := .cells #[.slice A0_0 l0_0.length c0_0, .int .i64 a0_1, .int .i64 a0_2] 54 (0, 0)) (by (with_reducible repeat (first | refine blk_drewN ?_ _ | refine blk_drew ?_ | refine blk_alloc ?_ _)); exact BK827.out) hb)
            have n3_ := Aside0.mk (below_step (by repeat (first | (with_reducible first | exact HB.out | apply below_alloc | apply pw_below_drewN | apply below_drew1 | refine below_set ?_ GE827.out) | exact HB.out)) hb)
            clear HO830
            clear BK827
            clear HB
            have HO830 := n0_
            have HO836 := n1_
            have BK827 := n2_
            have HB := n3_
            clear n0_ n1_ n2_ n3_
            clear hb ho9
            refine hK.out _ _ ⟨(blk_cell BK827.out 0).trans rfl, (blk_cell BK827.out 1).trans rfl, (blk_cell BK827.out 2).trans rfl⟩ (fun hHeld => ?_)
            clear hK K
            refine norm_ (a' := ?_) ?_ ?_
            rotate_left
            · show Act.put _ (some 9) _ = _
              simp only [Act.put, List.setIfInBounds_toArray, List.set_cons_zero, List.set_cons_succ, i64_w, i32_w]
              rfl
            refine one_ (i := 3) (N := some 6) #[true, true, true, true, true, true, true, false, false] rfl rfl (one_of HT_.out (by kernel_rfl)) (by decide) (fun K hK => ?_)
            refine Kd.R_append_rows_step (Kd.int .i64) (w0 := w) w.heap.size (by rfl) (.tmp 3) (.tmp 5) 26 3 (.int .i64 0) 8 rfl Tryd.underlying26 info3 rfl (by decide) (by omega) v829 y828 l0_0 _ _ _ (fun k_ => some k_ ≠ (v835 : Value).ownBlock) (fun _ => False) rfl rfl ?aO ?aR (fun _ _ h => h) (fun _ h => h.elim) ?aF ?aB ?aS ?aL ?_
            (case aR => repeat (first | exact (Kd.C_below HR0_0.out HB.out) | (with_reducible refine Kd.C_alloc ?_ _) | (with_reducible refine Kd.C_drewN ?_ _) | (with_reducible refine Kd.C_drew ?_)))
            (case aB => exact (by repeat (first | (with_reducible first | exact HB.out | apply below_alloc | apply pw_below_drewN | apply below_drew1 | refine below_set ?_ GE827.out) | exact HB.out)))
            (case aF => exact (fun k_ hk => Kd.fresh' (Kd.R_lt (by (with_reducible repeat (first | apply Kd.R_alloc | apply Kd.R_drewN | apply Kd.R_drew)); exact HO836.out)) k_ hk))
            (case aO => exact (by (with_reducible repeat (first | apply Kd.R_alloc | apply Kd.R_drewN | apply Kd.R_drew)); exact Kd.R_mono HO830.out (fun _ hk => hk.2)))
            (case aS => exact (below_size (by repeat (first | (with_reducible first | exact HB.out | apply below_alloc | apply pw_below_drewN | apply below_drew1 | refine below_set ?_ GE827.out) | exact HB.out))))
            (case aL => have := LMc2.out; omega)
            intro v832 w10 ho hb hg hat
            rw [← Ny831.out] at ho
            have n0_ := Aside0.mk (blk_grown (g := gb827) (o := .cells #[.slice A0_0 l0_0.length c0_0, .int .i64 a0_1, .int .i64 a0_2] 54 (0, 0)) (by (with_reducible repeat (first | refine blk_drewN ?_ _ | refine blk_drew ?_ | refine blk_alloc ?_ _)); exact BK827.out) hg (Kd.R_ne HO830.out BK827.out (by decide)))
            have n1_ := Aside0.mk (Kd.R_after (ok := (fun _ => True)) (by (with_reducible repeat (first | apply Kd.R_alloc | apply Kd.R_drewN | apply Kd.R_drew)); exact HO836.out) hg hat)
            have n2_ := Aside0.mk (hb)
            have n3_ := Aside0.mk (ho)
            clear BK827
            clear HO836
            clear HB
            clear HO830
            have BK827 := n0_
            have HO836 := n1_
            have HB := n2_
            have HO833 := n3_
            clear n0_ n1_ n2_ n3_
            clear ho hb hg hat
            refine hK.out _ _ ⟨(blk_cell BK827.out 0).trans rfl, (blk_cell BK827.out 1).trans rfl, (blk_cell BK827.out 2).trans rfl⟩ (fun hHeld => ?_)
            clear hK K
            refine norm_ (a' := ?_) ?_ ?_
            rotate_left
            · show Act.put _ (some 6) _ = _
              simp only [Act.put, List.setIfInBounds_toArray, List.set_cons_zero, List.set_cons_succ, i64_w, i32_w]
              rfl
            exact norm_ (by simp only [putAll, Act.put, List.setIfInBounds_toArray, List.set_cons_zero, List.set_cons_succ]) (hCont (v829, v832, v835) _ ⟨hHeld, (by (with_reducible repeat (first | apply Kd.R_alloc | apply Kd.R_drewN | apply Kd.R_drew)); exact HO833.out), (by (with_reducible repeat (first | apply Kd.R_alloc | apply Kd.R_drewN | apply Kd.R_drew)); exact Kd.R_mono HO836.out (fun _ hk => hk.2)), (by (with_reducible repeat (first | refine blk_drewN ?_ _ | refine blk_drew ?_ | refine blk_alloc ?_ _)); exact BK827.out), (by repeat (first | (with_reducible first | exact HB.out | apply below_alloc | apply pw_below_drewN | apply below_drew1 | refine below_set ?_ GE827.out) | exact HB.out))⟩)
        · skip
          refine Kd.R_lit_step (Kd.int .i64) _ 3 ?hg (N := 9) ?hd (xs := ([a0_1] : List Int)) (inner := [.int .i64 a0_1]) (ok := fun _ => True) (okp := fun _ => True) ?hr ?hp (fun _ hk => hk) trivial (Below.refl _ _) (Nat.le_refl _) (by simp) ?_; (case hd => rfl); (case hg => rfl); (case hr => first | (go_simp; done) | (go_simp; rfl)); (case hp => exact (Reps.one (show Kd.M (Kd.int .i64) _ _ _ a0_1 [.int .i64 a0_1] from rfl) (Reps.none _ _)))
          intro v835 w6 ho7 hb hg_ hnew_
          clear hg_ hnew_
          (first | rw [← Ny834.out] at ho7 | (simp only [Int.reduceToNat] at ho7; rw [← Ny834.out] at ho7))
          have n0_ := Aside0.mk (Kd.R_lower ho7 (below_size (by repeat (first | (with_reducible first | exact HB.out | apply below_alloc | apply pw_below_drewN | apply below_drew1 | refine below_set ?_ GE827.out) | exact HB.out))))
          have n1_ := Aside0.mk (blk_below (g := gb827) (o := .cells #[.slice A0_0 l0_0.length c0_0, .int .i64 a0_1, .int .i64 a0_2] 54 (0, 0)) (by (with_reducible repeat (first | refine blk_drewN ?_ _ | refine blk_drew ?_ | refine blk_alloc ?_ _)); exact BK827.out) hb)
          have n2_ := Aside0.mk (below_step (by repeat (first | (with_reducible first | exact HB.out | apply below_alloc | apply pw_below_drewN | apply below_drew1 | refine below_set ?_ GE827.out) | exact HB.out)) hb)
          clear BK827
          clear HB
          have HO836 := n0_
          have BK827 := n1_
          have HB := n2_
          clear n0_ n1_ n2_
          clear hb ho7
          refine hK.out _ _ ⟨(blk_cell BK827.out 0).trans rfl, (blk_cell BK827.out 1).trans rfl, (blk_cell BK827.out 2).trans rfl⟩ (fun hHeld => ?_)
          clear hK K
          refine norm_ (a' := ?_) ?_ ?_
          rotate_left
          · show Act.put _ (some 9) _ = _
            simp only [Act.put, List.setIfInBounds_toArray, List.set_cons_zero, List.set_cons_succ, i64_w, i32_w]
            rfl
          refine one_ (i := 0) (N := some 3) #[true, true, true, false, true, true, true, false, false] rfl rfl (one_of HT_.out (by kernel_rfl)) (by decide) (fun K hK => ?_)
          refine Kd.R_lit_step (Kd.int .i64) _ 3 ?hg (N := 3) ?hd (xs := ([] : List Int)) (inner := []) (ok := fun _ => True) (okp := fun _ => True) ?hr ?hp (fun _ hk => hk) trivial (Below.refl _ _) (Nat.le_refl _) (by simp) ?_; (case hd => rfl); (case hg => rfl); (case hr => first | (go_simp; done) | (go_simp; rfl)); (case hp => exact (Reps.none _ _))
          intro v829 w8 ho9 hb hg_ hnew_
          clear hg_ hnew_
          (first | rw [← Ny828.out] at ho9 | (simp only [Int.reduceToNat] at ho9; rw [← Ny828.out] at ho9))
          have n0_ := Aside0.mk (Kd.R_elder' (by (with_reducible repeat (first | apply Kd.R_alloc | apply Kd.R_drewN | apply Kd.R_drew)); exact HO836.out) (Kd.R_base ho9) hb)
          have n1_ := Aside0.mk (Kd.R_lower (Kd.R_new' ho9 (Kd.R_lt (by (with_reducible repeat (first | apply Kd.R_alloc | apply Kd.R_drewN | apply Kd.R_drew)); exact HO836.out))) (below_size (by repeat (first | (with_reducible first | exact HB.out | apply below_alloc | apply pw_below_drewN | apply below_drew1 | refine below_set ?_ GE827.out) | exact HB.out))))
          have n2_ := Aside0.mk (blk_below (g := gb827) (o := .cells #[.slice A0_0 l0_0.length c0_0, .int .i64 a0_1, .int .i64 a0_2] 54 (0, 0)) (by (with_reducible repeat (first | refine blk_drewN ?_ _ | refine blk_drew ?_ | refine blk_alloc ?_ _)); exact BK827.out) hb)
          have n3_ := Aside0.mk (below_step (by repeat (first | (with_reducible first | exact HB.out | apply below_alloc | apply pw_below_drewN | apply below_drew1 | refine below_set ?_ GE827.out) | exact HB.out)) hb)
          clear HO836
          clear BK827
          clear HB
          have HO836 := n0_
          have HO830 := n1_
          have BK827 := n2_
          have HB := n3_
          clear n0_ n1_ n2_ n3_
          clear hb ho9
          refine hK.out _ _ ⟨(blk_cell BK827.out 0).trans rfl, (blk_cell BK827.out 1).trans rfl, (blk_cell BK827.out 2).trans rfl⟩ (fun hHeld => ?_)
          clear hK K
          refine norm_ (a' := ?_) ?_ ?_
          rotate_left
          · show Act.put _ (some 3) _ = _
            simp only [Act.put, List.setIfInBounds_toArray, List.set_cons_zero, List.set_cons_succ, i64_w, i32_w]
            rfl
          refine one_ (i := 3) (N := some 6) #[true, true, true, true, true, true, true, false, false] rfl rfl (one_of HT_.out (by kernel_rfl)) (by decide) (fun K hK => ?_)
          refine Kd.R_append_rows_step (Kd.int .i64) (w0 := w) w.heap.size (by rfl) (.tmp 3) (.tmp 5) 26 3 (.int .i64 0) 8 rfl Tryd.underlying26 info3 rfl (by decide) (by omega) v829 y828 l0_0 _ _ _ (fun k_ => some k_ ≠ (v835 : Value).ownBlock) (fun _ => False) rfl rfl ?aO ?aR (fun _ _ h => h) (fun _ h => h.elim) ?aF ?aB ?aS ?aL ?_
          (case aR => repeat (first | exact (Kd.C_below HR0_0.out HB.out) | (with_reducible refine Kd.C_alloc ?_ _) | (with_reducible refine Kd.C_drewN ?_ _) | (with_reducible refine Kd.C_drew ?_)))
          (case aB => exact (by repeat (first | (with_reducible first | exact HB.out | apply below_alloc | apply pw_below_drewN | apply below_drew1 | refine below_set ?_ GE827.out) | exact HB.out)))
          (case aF => exact (fun k_ hk => Kd.fresh' (Kd.R_lt (by (with_reducible repeat (first | apply Kd.R_alloc | apply Kd.R_drewN | apply Kd.R_drew)); exact HO836.out)) k_ hk))
          (case aO => exact (by (with_reducible repeat (first | apply Kd.R_alloc | apply Kd.R_drewN | apply Kd.R_drew)); exact Kd.R_mono HO830.out (fun _ hk => hk.2)))
          (case aS => exact (below_size (by repeat (first | (with_reducible first | exact HB.out | apply below_alloc | apply pw_below_drewN | apply below_drew1 | refine below_set ?_ GE827.out) | exact HB.out))))
          (case aL => have := LMc2.out; omega)
          intro v832 w10 ho hb hg hat
          rw [← Ny831.out] at ho
          have n0_ := Aside0.mk (blk_grown (g := gb827) (o := .cells #[.slice A0_0 l0_0.length c0_0, .int .i64 a0_1, .int .i64 a0_2] 54 (0, 0)) (by (with_reducible repeat (first | refine blk_drewN ?_ _ | refine blk_drew ?_ | refine blk_alloc ?_ _)); exact BK827.out) hg (Kd.R_ne HO830.out BK827.out (by decide)))
          have n1_ := Aside0.mk (Kd.R_after (ok := (fun _ => True)) (by (with_reducible repeat (first | apply Kd.R_alloc | apply Kd.R_drewN | apply Kd.R_drew)); exact HO836.out) hg hat)
          have n2_ := Aside0.mk (hb)
          have n3_ := Aside0.mk (ho)
          clear BK827
          clear HO836
          clear HB
          clear HO830
          have BK827 := n0_
          have HO836 := n1_
          have HB := n2_
          have HO833 := n3_
          clear n0_ n1_ n2_ n3_
          clear ho hb hg hat
          refine hK.out _ _ ⟨(blk_cell BK827.out 0).trans rfl, (blk_cell BK827.out 1).trans rfl, (blk_cell BK827.out 2).trans rfl⟩ (fun hHeld => ?_)
          clear hK K
          refine norm_ (a' := ?_) ?_ ?_
          rotate_left
          · show Act.put _ (some 6) _ = _
            simp only [Act.put, List.setIfInBounds_toArray, List.set_cons_zero, List.set_cons_succ, i64_w, i32_w]
            rfl
          exact norm_ (by simp only [putAll, Act.put, List.setIfInBounds_toArray, List.set_cons_zero, List.set_cons_succ]) (hCont (v829, v832, v835) _ ⟨hHeld, (by (with_reducible repeat (first | apply Kd.R_alloc | apply Kd.R_drewN | apply Kd.R_drew)); exact HO833.out), (by (with_reducible repeat (first | apply Kd.R_alloc | apply Kd.R_drewN | apply Kd.R_drew)); exact Kd.R_mono HO836.out (fun _ hk => hk.2)), (by (with_reducible repeat (first | refine blk_drewN ?_ _ | refine blk_drew ?_ | refine blk_alloc ?_ _)); exact BK827.out), (by repeat (first | (with_reducible first | exact HB.out | apply below_alloc | apply pw_below_drewN | apply below_drew1 | refine below_set ?_ GE827.out) | exact HB.out))⟩)
      rintro ⟨v829, v832, v835⟩ w11 ⟨hS_, h0_, h1_, h2_, h3_⟩
      have n0_ : Aside0 (Kd.R (Kd.int .i64) 3 w11 w.heap.size (fun k_ => some k_ ≠ (v835 : Value).ownBlock) v832 y831) := ⟨h0_⟩
      have n1_ : Aside0 (Kd.R (Kd.int .i64) 3 w11 w.heap.size (fun k_ => some k_ ≠ (v832 : Value).ownBlock) v835 y834) := ⟨h1_⟩
      have n2_ : Aside0 (w11.heap[gb827]? = some (.cells #[.slice A0_0 l0_0.length c0_0, .int .i64 a0_1, .int .i64 a0_2] 54 (0, 0))) := ⟨h2_⟩
      have n3_ : Aside0 (Below w.heap.size w w11) := ⟨h3_⟩
      clear BK827
      clear HB
      clear h0_ h1_ h2_ h3_
      have HO833 := n0_
      have HO836 := n1_
      have BK827 := n2_
      have HB := n3_
      clear n0_ n1_ n2_ n3_
      have hHeld : w11.cell? ⟨gb827, 0, none⟩ = some (.slice A0_0 l0_0.length c0_0) ∧ w11.cell? ⟨gb827, 1, none⟩ = some (.int .i64 a0_1) ∧ w11.cell? ⟨gb827, 2, none⟩ = some (.int .i64 a0_2) := hS_
      obtain ⟨Ao13, co13, eo13⟩ := Kd.R_slice HO836.out
      (first | subst eo13 | (injection eo13 with f1_ f2_ f3_; have f4_ := f1_.symm; have f5_ := f3_.symm; clear f1_ f2_ f3_; subst f4_; subst f5_))
      refine norm_ (a' := ?_) ?_ ?_
      rotate_left
      · simp only [putAll, Act.put, List.setIfInBounds_toArray, List.set_cons_zero, List.set_cons_succ]
        rfl
      refine one_ (i := 7) (N := some 10) #[true, true, true, true, true, true, true, true, false] rfl rfl (one_of HT_.out (by kernel_rfl)) (by decide) (fun K hK => ?_)
      refine Kd.R_append_rows_step (Kd.int .i64) (w0 := w) w.heap.size (by rfl) (.tmp 6) (.tmp 9) 26 3 (.int .i64 0) 8 rfl Tryd.underlying26 info3 rfl (by decide) (by omega) v832 y831 y834 _ _ _ (fun k_ => some k_ ≠ (.slice Ao13 y834.length co13 : Value).ownBlock) (fun _ => False) rfl rfl ?aO ?aR (fun _ _ h => h) (fun _ h => h.elim) ?aF ?aB ?aS ?aL ?_
      (case aR => repeat (first | exact (Kd.R_reads' HO836.out).2.2 | (with_reducible refine Kd.C_alloc ?_ _) | (with_reducible refine Kd.C_drewN ?_ _) | (with_reducible refine Kd.C_drew ?_)))
      (case aB => exact (by repeat (first | (with_reducible first | exact HB.out | apply below_alloc | apply pw_below_drewN | apply below_drew1 | refine below_set ?_ GE827.out) | exact HB.out)))
      (case aF => exact (fun k_ hk => Kd.fresh' (Kd.R_lt (by (with_reducible repeat (first | apply Kd.R_alloc | apply Kd.R_drewN | apply Kd.R_drew)); exact HO836.out)) k_ hk))
      (case aO => exact (by (with_reducible repeat (first | apply Kd.R_alloc | apply Kd.R_drewN | apply Kd.R_drew)); exact HO833.out))
      (case aS => exact (below_size (by repeat (first | (with_reducible first | exact HB.out | apply below_alloc | apply pw_below_drewN | apply below_drew1 | refine below_set ?_ GE827.out) | exact HB.out))))
      (case aL => have := LMc3.out; omega)
      intro v838 w12 ho hb hg hat
      rw [← Ny837.out] at ho
      have n0_ := Aside0.mk (blk_grown (g := gb827) (o := .cells #[.slice A0_0 l0_0.length c0_0, .int .i64 a0_1, .int .i64 a0_2] 54 (0, 0)) (by (with_reducible repeat (first | refine blk_drewN ?_ _ | refine blk_drew ?_ | refine blk_alloc ?_ _)); exact BK827.out) hg (Kd.R_ne HO833.out BK827.out (by decide)))
      have n1_ := Aside0.mk (Kd.R_after (ok := (fun _ => True)) (by (with_reducible repeat (first | apply Kd.R_alloc | apply Kd.R_drewN | apply Kd.R_drew)); exact Kd.R_mono HO836.out (fun _ hk => ⟨trivial, hk⟩)) hg hat)
      have n2_ := Aside0.mk (hb)
      have n3_ := Aside0.mk (ho)
      clear BK827
      clear HO836
      clear HB
      clear HO833
      have BK827 := n0_
      have HO836 := n1_
      have HB := n2_
      have HO839 := n3_
      clear n0_ n1_ n2_ n3_
      clear ho hb hg hat
      refine hK.out _ _ ⟨(blk_cell BK827.out 0).trans rfl, (blk_cell BK827.out 1).trans rfl, (blk_cell BK827.out 2).trans rfl⟩ (fun hHeld => ?_)
      clear hK K
      refine norm_ (a' := ?_) ?_ ?_
      rotate_left
      · show Act.put _ (some 10) _ = _
        simp only [Act.put, List.setIfInBounds_toArray, List.set_cons_zero, List.set_cons_succ, i64_w, i32_w]
        rfl
      refine pure_ (i := 8) (N := some 2) (v := ?_) (a' := ?_) #[true, true, true, true, true, true, true, true, true] rfl rfl (any_of HT_.out (by kernel_rfl)) (fun _ _ _ h => h) (Or.inl ⟨by rfl, ?_⟩) ?_ ?_
      rotate_left
      · intro w'
        go_simp
        first | with_reducible rfl | (rw [own_len_N ?hl_ ?hu_]; (case hl_ => assumption); (case hu_ => kernel_rfl); (try with_reducible rfl)) | (rw [own_len_R ?hl_ ?hu_]; (case hl_ => assumption); (case hu_ => kernel_rfl); (try with_reducible rfl))
      rotate_left
      · simp only [Act.put, List.setIfInBounds_toArray, List.set_cons_zero, List.set_cons_succ, i64_w, i32_w]
        rfl
      refine done_ (done_of HT_.out (by kernel_rfl)) ?_
      try go_wp2
      go_ret
      exact ⟨_, by first | rfl | (simp [errW_none, errW_some] <;> rfl) | (simp [*, errW_none, errW_some] <;> rfl), by (with_reducible repeat (first | apply Kd.R_alloc | apply Kd.R_drewN | apply Kd.R_drew)); exact Kd.R_mono HO839.out (fun _ hk => trivial), by repeat (first | (with_reducible first | exact HB.out | apply below_alloc | apply pw_below_drewN | apply below_drew1 | refine below_set ?_ GE827.out) | exact HB.out)⟩
    · rw [if_neg c3] at H
      exact absurd H (by simp)
  · rw [if_neg c2] at H
    exact absurd H (by simp)
end Go.Proofs.YtagkhoeidjlahaaDoor.G
namespace Go.Proofs.YtagkhoeidjlahaaDoor.G
open Go.RowKit Go.Proofs.YtagkhoeidjlahaaDoorW.PrintWords Go.Proofs.YtagkhoeidjlahaaDoorW.PrintLast Go.Proofs.YtagkhoeidjlahaaDoorW.PrintMore
attribute [local go_sem] max2_int min2_int max_two min_two max_three min_three max_four min_four
set_option linter.unusedVariables false
set_option linter.unusedSimpArgs false
def selection_End.f (l0_0 : List Int) (a0_1 : Int) (a0_2 : Int) : Option (List Int) := (slices_Clone_int_int.f l0_0).bind fun t841 => ((some (([a0_2] : List Int) : List Int)).bind fun y844 => (if t841.length + y844.length < 17592186044416 then (some (t841 ++ y844)) else (none)))
def selection_End.T1 : Bool × List (List Nat × List Nat) := (true, [([], []), ([0], [0]), ([1], [1]), ([], []), ([3], [3]), ([4], [4]), ([2, 5, 2], [2, 5]), ([6, 6, 0, 1, 2, 3, 4, 5, 6], [6])])
def selection_End.B1 : List Nat := [0, 1, 3, 0, 8, 24, 63, 127]
theorem selection_End.tab1 : rtab .any (opsOf Tryd.f56 1) = selection_End.T1 := by kernel_rfl
theorem selection_End.bits1 : waitsOk selection_End.T1.2 selection_End.B1 = true := by kernel_rfl
set_option maxHeartbeats 8000000 in
set_option maxRecDepth 100000 in
theorem selection_End.calls (A0_0 : Option Addr) (c0_0 : Nat) (l0_0 : List Int) (a0_1 : Int) (a0_2 : Int) (r : List Int) (w : World) (hr0_0 : Kd.C (Kd.int .i64) w A0_0 l0_0.length l0_0) (hc0_0 : l0_0.length ≤ c0_0) (h : selection_End.f l0_0 a0_1 a0_2 = some r) :
    Calls Tryd.prog 56 #[.agg #[.slice A0_0 l0_0.length c0_0, .int .i64 a0_1, .int .i64 a0_2]] w fun e w' => ∃ v0_ : Value, e = .returned (v0_) ∧ Kd.R (Kd.int .i64) 3 w' w.heap.size (fun _ => True) v0_ r ∧ Below w.heap.size w w' := by
  have hu54 := Tryd.underlying54
  have HR0_0 := Aside0.mk hr0_0
  have HC0_0 := Aside0.mk hc0_0
  clear hr0_0 hc0_0
  have HB := Aside0.mk (Below.refl w.heap.size w)
  have H : ((slices_Clone_int_int.f l0_0).bind fun t841 => ((some (([a0_2] : List Int) : List Int)).bind fun y844 => (if t841.length + y844.length < 17592186044416 then (some (t841 ++ y844)) else (none)))) = some r := h
  clear h
  replace H := Option.bind_eq_some_iff.mp H
  obtain ⟨t841, A20, H⟩ := H
  replace H : ((some (([a0_2] : List Int) : List Int)).bind fun y844 => (if t841.length + y844.length < 17592186044416 then (some (t841 ++ y844)) else (none))) = some r := H
  have A2 := Aside0.mk A20
  clear A20
  obtain ⟨y844, hy844⟩ : ∃ y_ : List Int, y_ = (([a0_2] : List Int)) := ⟨_, rfl⟩
  replace H : (if t841.length + y844.length < 17592186044416 then (some (t841 ++ y844)) else (none)) = some r := by first | (rw [hy844]; with_reducible exact H) | (have H2_ := (Option.bind_some _ _).symm.trans H; rw [hy844]; with_reducible exact H2_) | (have H2_ := (Option.bind_some _ _).symm.trans H; with_reducible exact H2_) | with_reducible exact H | (rw [hy844]; exact H) | exact H
  have Ny844 := Aside0.mk hy844
  clear hy844
  by_cases c3 : t841.length + y844.length < 17592186044416
  · rw [if_pos c3] at H
    have LMc3 := Aside0.mk c3
    clear c3
    obtain ⟨y847, hy847⟩ : ∃ y_ : List Int, y_ = (t841 ++ y844) := ⟨_, rfl⟩
    replace H : (some y847) = some r := by first | (rw [hy847]; with_reducible exact H) | (have H2_ := (Option.bind_some _ _).symm.trans H; rw [hy847]; with_reducible exact H2_) | (have H2_ := (Option.bind_some _ _).symm.trans H; with_reducible exact H2_) | with_reducible exact H | (rw [hy847]; exact H) | exact H
    have Ny847 := Aside0.mk hy847
    clear hy847
    obtain rfl := Option.some.inj H
    go_enter Tryd.func56, Tryd.ntmps56
    try go_wp2_with (first | ((with_reducible refine gate_dst (N := 1) rfl ?_); refine box_event ?hg (N := 1) ?hd (cs := #[.slice A0_0 l0_0.length c0_0, .int .i64 a0_1, .int .i64 a0_2]) (t := 54) ?hr ?_; (case hd => rfl); (case hg => rfl); (case hr => first | (go_simp; done) | (go_simp; rfl)); intro gb840 hg w4 hbox hb; have n0_ := Aside0.mk (below_step (by repeat (first | (with_reducible first | exact HB.out | apply below_alloc | apply pw_below_drewN | apply below_drew1) | exact HB.out)) hb); have n1_ := Aside0.mk (hbox); have n2_ := Aside0.mk ((by rw [hg]; exact (below_size (by repeat (first | (with_reducible first | exact HB.out | apply below_alloc | apply pw_below_drewN | apply below_drew1) | exact HB.out))) : w.heap.size ≤ gb840)); have n3_ := Aside0.mk ((by rw [hg]; exact (below_size (by repeat (first | (with_reducible first | exact HB.out | apply below_alloc | apply pw_below_drewN | apply below_drew1) | exact HB.out))) : w.heap.size ≤ gb840)); clear HB; have HB := n0_; have BK840 := n1_; have GW840 := n2_; have GE840 := n3_; clear n0_ n1_ n2_ n3_; clear hb hbox hg))
    have n0_ := Aside0.mk (blk_drew BK840.out)
    have n1_ := Aside0.mk (below_drew1 HB.out)
    clear BK840
    clear HB
    have BK840 := n0_
    have HB := n1_
    clear n0_ n1_
    refine start_ (n := 8) (S := fun w' => w'.cell? ⟨gb840, 0, none⟩ = some (.slice A0_0 l0_0.length c0_0) ∧ w'.cell? ⟨gb840, 1, none⟩ = some (.int .i64 a0_1) ∧ w'.cell? ⟨gb840, 2, none⟩ = some (.int .i64 a0_2)) (ds := []) #[false, false, false, false, false, false, false, false] (by kernel_rfl) rfl rfl ⟨(blk_cell BK840.out 0).trans rfl, (blk_cell BK840.out 1).trans rfl, (blk_cell BK840.out 2).trans rfl⟩ (fun hHeld => ?_); refine with_tabW selection_End.tab1 selection_End.bits1 (fun HT_ HW_ => ?_)
    generalize w4.drew = w5 at BK840 HB hHeld ⊢
    refine pure_ (i := 0) (N := some 3) (v := ?_) (a' := ?_) #[true, false, false, false, false, false, false, false] rfl rfl (any_of HT_.out (by kernel_rfl)) (fun _ _ _ h => h) (Or.inl ⟨by rfl, ?_⟩) ?_ ?_
    rotate_left
    · intro w'
      go_simp
      first | with_reducible rfl | (rw [own_len_N ?hl_ ?hu_]; (case hl_ => assumption); (case hu_ => kernel_rfl); (try with_reducible rfl)) | (rw [own_len_R ?hl_ ?hu_]; (case hl_ => assumption); (case hu_ => kernel_rfl); (try with_reducible rfl))
    rotate_left
    · simp only [Act.put, List.setIfInBounds_toArray, List.set_cons_zero, List.set_cons_succ, i64_w, i32_w]
      rfl
    refine pure_ (i := 3) (N := some 6) (v := ?_) (a' := ?_) #[true, false, false, true, false, false, false, false] rfl rfl (any_of HT_.out (by kernel_rfl)) (fun _ _ _ h => h) (Or.inl ⟨by rfl, ?_⟩) ?_ ?_
    rotate_left
    · intro w'
      go_simp
      first | with_reducible rfl | (rw [own_len_N ?hl_ ?hu_]; (case hl_ => assumption); (case hu_ => kernel_rfl); (try with_reducible rfl)) | (rw [own_len_R ?hl_ ?hu_]; (case hl_ => assumption); (case hu_ => kernel_rfl); (try with_reducible rfl))
    rotate_left
    · simp only [Act.put, List.setIfInBounds_toArray, List.set_cons_zero, List.set_cons_succ, i64_w, i32_w]
      rfl
    refine take_ (i := 1) (N := some 4) (v := ?_) (a' := ?_) #[true, true, false, true, false, false, false, false] rfl rfl (take_ofW HT_.out HW_.out (by kernel_rfl)) (fun _ _ _ h => h) (Or.inl ⟨by rfl, ?_⟩) hHeld ?_ ?_
    rotate_left
    · rintro w' ⟨s0, s1, s2⟩
      go_simp
      with_reducible rfl
    rotate_left
    · simp only [Act.put, List.setIfInBounds_toArray, List.set_cons_zero, List.set_cons_succ, i64_w, i32_w]
      rfl
    refine take_ (i := 4) (N := some 7) (v := ?_) (a' := ?_) #[true, true, false, true, true, false, false, false] rfl rfl (take_ofW HT_.out HW_.out (by kernel_rfl)) (fun _ _ _ h => h) (Or.inl ⟨by rfl, ?_⟩) hHeld ?_ ?_
    rotate_left
    · rintro w' ⟨s0, s1, s2⟩
      go_simp
      with_reducible rfl
    rotate_left
    · simp only [Act.put, List.setIfInBounds_toArray, List.set_cons_zero, List.set_cons_succ, i64_w, i32_w]
      rfl
    refine join_ (σ := Value × Value) 2 #[true, true, true, true, true, true, false, false] (fun s_ => [(5, s_.1), (8, s_.2)]) (fun s_ w' => (w'.cell? ⟨gb840, 0, none⟩ = some (.slice A0_0 l0_0.length c0_0) ∧ w'.cell? ⟨gb840, 1, none⟩ = some (.int .i64 a0_1) ∧ w'.cell? ⟨gb840, 2, none⟩ = some (.int .i64 a0_2)) ∧ (Kd.R (Kd.int .i64) 3 w' w.heap.size (fun k_ => some k_ ≠ (s_.2 : Value).ownBlock) s_.1 t841) ∧ (Kd.R (Kd.int .i64) 3 w' w.heap.size (fun k_ => some k_ ≠ (s_.1 : Value).ownBlock) s_.2 y844) ∧ (w'.heap[gb840]? = some (.cells #[.slice A0_0 l0_0.length c0_0, .int .i64 a0_1, .int .i64 a0_2] 54 (0, 0))) ∧ (Below w.heap.size w w')) ?_ ?_
    rotate_left
    · intro hCont
      refine two_ (i := 2) (j := 5) (Ni := some 5) (Nj := some 8) #[true, true, true, true, true, false, false, false] #[true, true, false, true, true, true, false, false] rfl rfl rfl rfl (two_of HT_.out (by kernel_rfl)) (by decide) (by decide) (fun K hK => ?_) (fun K hK => ?_)
      · skip
        refine goes_ Tryd.func81 (by kernel_rfl) rfl #[.slice A0_0 l0_0.length c0_0] (by rfl) rfl rfl (by (try simp only [List.map_toArray, List.map_cons, List.map_nil]); first | done | rfl | (simp only [List.length_drop, List.length_take]; rfl)) ?_
        with_reducible refine (slices_Clone_int_int.calls _ _ l0_0 t841 _ ?side1 ?side2 A2.out).mono ?_
        (case side1 => repeat (first | exact (Kd.C_below HR0_0.out HB.out) | (with_reducible refine Kd.C_alloc ?_ _) | (with_reducible refine Kd.C_drewN ?_ _) | (with_reducible refine Kd.C_drew ?_)))
        (case side2 => exact HC0_0.out)
        rintro e w6 ⟨v842, rfl, ho0, hb⟩
        refine ⟨_, rfl, ?_⟩
        have n0_ := Aside0.mk (Kd.R_lower ho0 (below_size (by repeat (first | (with_reducible first | exact HB.out | apply below_alloc | apply pw_below_drewN | apply below_drew1 | refine below_set ?_ GE840.out) | exact HB.out))))
        have n1_ := Aside0.mk (blk_below (g := gb840) (o := .cells #[.slice A0_0 l0_0.length c0_0, .int .i64 a0_1, .int .i64 a0_2] 54 (0, 0)) (by (with_reducible repeat (first | refine blk_drewN ?_ _ | refine blk_drew ?_ | refine blk_alloc ?_ _)); exact BK840.out) hb)
        have n2_ := Aside0.mk (below_step (by repeat (first | (with_reducible first | exact HB.out | apply below_alloc | apply pw_below_drewN | apply below_drew1 | refine below_set ?_ GE840.out) | exact HB.out)) hb)
        clear BK840
        clear HB
        have HO843 := n0_
        have BK840 := n1_
        have HB := n2_
        clear n0_ n1_ n2_
        (try clear hb)
        (try clear hb2)
        (try clear hk)
        (try clear hi)
        (try clear ho0)
        refine hK.out _ _ ⟨(blk_cell BK840.out 0).trans rfl, (blk_cell BK840.out 1).trans rfl, (blk_cell BK840.out 2).trans rfl⟩ (fun hHeld => ?_)
        clear hK K
        refine norm_ (a' := ?_) ?_ ?_
        rotate_left
        · show Act.put _ (some 5) _ = _
          simp only [Act.put, List.setIfInBounds_toArray, List.set_cons_zero, List.set_cons_succ, i64_w, i32_w]
          rfl
        refine one_ (i := 5) (N := some 8) #[true, true, true, true, true, true, false, false] rfl rfl (one_of HT_.out (by kernel_rfl)) (by decide) (fun K hK => ?_)
        refine Kd.R_lit_step (Kd.int .i64) _ 3 ?hg (N := 8) ?hd (xs := ([a0_2] : List Int)) (inner := [.int .i64 a0_2]) (ok := fun _ => True) (okp := fun _ => True) ?hr ?hp (fun _ hk => hk) trivial (Below.refl _ _) (Nat.le_refl _) (by simp) ?_; (case hd => rfl); (case hg => rfl); (case hr => first | (go_simp; done) | (go_simp; rfl)); (case hp => exact (Reps.one (show Kd.M (Kd.int .i64) _ _ _ a0_2 [.int .i64 a0_2] from rfl) (Reps.none _ _)))
        intro v845 w7 ho8 hb hg_ hnew_
        clear hg_ hnew_
        (first | rw [← Ny844.out] at ho8 | (simp only [Int.reduceToNat] at ho8; rw [← Ny844.out] at ho8))
        have n0_ := Aside0.mk (Kd.R_elder' (by (with_reducible repeat (first | apply Kd.R_alloc | apply Kd.R_drewN | apply Kd.R_drew)); exact HO843.out) (Kd.R_base ho8) hb)
        have n1_ := Aside0.mk (Kd.R_lower (Kd.R_new' ho8 (Kd.R_lt (by (with_reducible repeat (first | apply Kd.R_alloc | apply Kd.R_drewN | apply Kd.R_drew)); exact HO843.out))) (below_size (by repeat (first | (with_reducible first | exact HB.out | apply below_alloc | apply pw_below_drewN | apply below_drew1 | refine below_set ?_ GE840.out) | exact HB.out))))
        have n2_ := Aside0.mk (blk_below (g := gb840) (o := .cells #[.slice A0_0 l0_0.length c0_0, .int .i64 a0_1, .int .i64 a0_2] 54 (0, 0)) (by (with_reducible repeat (first | refine blk_drewN ?_ _ | refine blk_drew ?_ | refine blk_alloc ?_ _)); exact BK840.out) hb)
        have n3_ := Aside0.mk (below_step (by repeat (first | (with_reducible first | exact HB.out | apply below_alloc | apply pw_below_drewN | apply below_drew1 | refine below_set ?_ GE840.out) | exact HB.out)) hb)
        clear HO843
        clear BK840
        clear HB
        have HO843 := n0_
        have HO846 := n1_
        have BK840 := n2_
        have HB := n3_
        clear n0_ n1_ n2_ n3_
        clear hb ho8
        refine hK.out _ _ ⟨(blk_cell BK840.out 0).trans rfl, (blk_cell BK840.out 1).trans rfl, (blk_cell BK840.out 2).trans rfl⟩ (fun hHeld => ?_)
        clear hK K
        refine norm_ (a' := ?_) ?_ ?_
        rotate_left
        · show Act.put _ (some 8) _ = _
          simp only [Act.put, List.setIfInBounds_toArray, List.set_cons_zero, List.set_cons_succ, i64_w, i32_w]
          rfl
        exact norm_ (by simp only [putAll, Act.put, List.setIfInBounds_toArray, List.set_cons_zero, List.set_cons_succ]) (hCont (v842, v845) _ ⟨hHeld, (by (with_reducible repeat (first | apply Kd.R_alloc | apply Kd.R_drewN | apply Kd.R_drew)); exact Kd.R_mono HO843.out (fun _ hk => hk.2)), (by (with_reducible repeat (first | apply Kd.R_alloc | apply Kd.R_drewN | apply Kd.R_drew)); exact Kd.R_mono HO846.out (fun _ hk => hk.2)), (by (with_reducible repeat (first | refine blk_drewN ?_ _ | refine blk_drew ?_ | refine blk_alloc ?_ _)); exact BK840.out), (by repeat (first | (with_reducible first | exact HB.out | apply below_alloc | apply pw_below_drewN | apply below_drew1 | refine below_set ?_ GE840.out) | exact HB.out))⟩)
      · skip
        refine Kd.R_lit_step (Kd.int .i64) _ 3 ?hg (N := 8) ?hd (xs := ([a0_2] : List Int)) (inner := [.int .i64 a0_2]) (ok := fun _ => True) (okp := fun _ => True) ?hr ?hp (fun _ hk => hk) trivial (Below.refl _ _) (Nat.le_refl _) (by simp) ?_; (case hd => rfl); (case hg => rfl); (case hr => first | (go_simp; done) | (go_simp; rfl)); (case hp => exact (Reps.one (show Kd.M (Kd.int .i64) _ _ _ a0_2 [.int .i64 a0_2] from rfl) (Reps.none _ _)))
        intro v845 w6 ho7 hb hg_ hnew_
        clear hg_ hnew_
        (first | rw [← Ny844.out] at ho7 | (simp only [Int.reduceToNat] at ho7; rw [← Ny844.out] at ho7))
        have n0_ := Aside0.mk (Kd.R_lower ho7 (below_size (by repeat (first | (with_reducible first | exact HB.out | apply below_alloc | apply pw_below_drewN | apply below_drew1 | refine below_set ?_ GE840.out) | exact HB.out))))
        have n1_ := Aside0.mk (blk_below (g := gb840) (o := .cells #[.slice A0_0 l0_0.length c0_0, .int .i64 a0_1, .int .i64 a0_2] 54 (0, 0)) (by (with_reducible repeat (first | refine blk_drewN ?_ _ | refine blk_drew ?_ | refine blk_alloc ?_ _)); exact BK840.out) hb)
        have n2_ := Aside0.mk (below_step (by repeat (first | (with_reducible first | exact HB.out | apply below_alloc | apply pw_below_drewN | apply below_drew1 | refine below_set ?_ GE840.out) | exact HB.out)) hb)
        clear BK840
        clear HB
        have HO846 := n0_
        have BK840 := n1_
        have HB := n2_
        clear n0_ n1_ n2_
        clear hb ho7
        refine hK.out _ _ ⟨(blk_cell BK840.out 0).trans rfl, (blk_cell BK840.out 1).trans rfl, (blk_cell BK840.out 2).trans rfl⟩ (fun hHeld => ?_)
        clear hK K
        refine norm_ (a' := ?_) ?_ ?_
        rotate_left
        · show Act.put _ (some 8) _ = _
          simp only [Act.put, List.setIfInBounds_toArray, List.set_cons_zero, List.set_cons_succ, i64_w, i32_w]
          rfl
        refine one_ (i := 2) (N := some 5) #[true, true, true, true, true, true, false, false] rfl rfl (one_of HT_.out (by kernel_rfl)) (by decide) (fun K hK => ?_)
        refine goes_ Tryd.func81 (by kernel_rfl) rfl #[.slice A0_0 l0_0.length c0_0] (by rfl) rfl rfl (by (try simp only [List.map_toArray, List.map_cons, List.map_nil]); first | done | rfl | (simp only [List.length_drop, List.length_take]; rfl)) ?_
        with_reducible refine (slices_Clone_int_int.calls _ _ l0_0 t841 _ ?side1 ?side2 A2.out).mono ?_
        (case side1 => repeat (first | exact (Kd.C_below HR0_0.out HB.out) | (with_reducible refine Kd.C_alloc ?_ _) | (with_reducible refine Kd.C_drewN ?_ _) | (with_reducible refine Kd.C_drew ?_)))
        (case side2 => exact HC0_0.out)
        rintro e w8 ⟨v842, rfl, ho0, hb⟩
        refine ⟨_, rfl, ?_⟩
        have n0_ := Aside0.mk (Kd.R_elder' (by (with_reducible repeat (first | apply Kd.R_alloc | apply Kd.R_drewN | apply Kd.R_drew)); exact HO846.out) (Kd.R_base ho0) hb)
        have n1_ := Aside0.mk (Kd.R_lower (Kd.R_new' ho0 (Kd.R_lt (by (with_reducible repeat (first | apply Kd.R_alloc | apply Kd.R_drewN | apply Kd.R_drew)); exact HO846.out))) (below_size (by repeat (first | (with_reducible first | exact HB.out | apply below_alloc | apply pw_below_drewN | apply below_drew1 | refine below_set ?_ GE840.out) | exact HB.out))))
        have n2_ := Aside0.mk (blk_below (g := gb840) (o := .cells #[.slice A0_0 l0_0.length c0_0, .int .i64 a0_1, .int .i64 a0_2] 54 (0, 0)) (by (with_reducible repeat (first | refine blk_drewN ?_ _ | refine blk_drew ?_ | refine blk_alloc ?_ _)); exact BK840.out) hb)
        have n3_ := Aside0.mk (below_step (by repeat (first | (with_reducible first | exact HB.out | apply below_alloc | apply pw_below_drewN | apply below_drew1 | refine below_set ?_ GE840.out) | exact HB.out)) hb)
        clear HO846
        clear BK840
        clear HB
        have HO846 := n0_
        have HO843 := n1_
        have BK840 := n2_
        have HB := n3_
        clear n0_ n1_ n2_ n3_
        (try clear hb)
        (try clear hb2)
        (try clear hk)
        (try clear hi)
        (try clear ho0)
        refine hK.out _ _ ⟨(blk_cell BK840.out 0).trans rfl, (blk_cell BK840.out 1).trans rfl, (blk_cell BK840.out 2).trans rfl⟩ (fun hHeld => ?_)
        clear hK K
        refine norm_ (a' := ?_) ?_ ?_
        rotate_left
        · show Act.put _ (some 5) _ = _
          simp only [Act.put, List.setIfInBounds_toArray, List.set_cons_zero, List.set_cons_succ, i64_w, i32_w]
          rfl
        exact norm_ (by simp only [putAll, Act.put, List.setIfInBounds_toArray, List.set_cons_zero, List.set_cons_succ]) (hCont (v842, v845) _ ⟨hHeld, (by (with_reducible repeat (first | apply Kd.R_alloc | apply Kd.R_drewN | apply Kd.R_drew)); exact Kd.R_mono HO843.out (fun _ hk => hk.2)), (by (with_reducible repeat (first | apply Kd.R_alloc | apply Kd.R_drewN | apply Kd.R_drew)); exact Kd.R_mono HO846.out (fun _ hk => hk.2)), (by (with_reducible repeat (first | refine blk_drewN ?_ _ | refine blk_drew ?_ | refine blk_alloc ?_ _)); exact BK840.out), (by repeat (first | (with_reducible first | exact HB.out | apply below_alloc | apply pw_below_drewN | apply below_drew1 | refine below_set ?_ GE840.out) | exact HB.out))⟩)
    rintro ⟨v842, v845⟩ w9 ⟨hS_, h0_, h1_, h2_, h3_⟩
    have n0_ : Aside0 (Kd.R (Kd.int .i64) 3 w9 w.heap.size (fun k_ => some k_ ≠ (v845 : Value).ownBlock) v842 t841) := ⟨h0_⟩
    have n1_ : Aside0 (Kd.R (Kd.int .i64) 3 w9 w.heap.size (fun k_ => some k_ ≠ (v842 : Value).ownBlock) v845 y844) := ⟨h1_⟩
    have n2_ : Aside0 (w9.heap[gb840]? = some (.cells #[.slice A0_0 l0_0.length c0_0, .int .i64 a0_1, .int .i64 a0_2] 54 (0, 0))) := ⟨h2_⟩
    have n3_ : Aside0 (Below w.heap.size w w9) := ⟨h3_⟩
    clear BK840
    clear HB
    clear h0_ h1_ h2_ h3_
    have HO843 := n0_
    have HO846 := n1_
    have BK840 := n2_
    have HB := n3_
    clear n0_ n1_ n2_ n3_
    have hHeld : w9.cell? ⟨gb840, 0, none⟩ = some (.slice A0_0 l0_0.length c0_0) ∧ w9.cell? ⟨gb840, 1, none⟩ = some (.int .i64 a0_1) ∧ w9.cell? ⟨gb840, 2, none⟩ = some (.int .i64 a0_2) := hS_
    obtain ⟨Ao11, co11, eo11⟩ := Kd.R_slice HO846.out
    (first | subst eo11 | (injection eo11 with f1_ f2_ f3_; have f4_ := f1_.symm; have f5_ := f3_.symm; clear f1_ f2_ f3_; subst f4_; subst f5_))
    refine norm_ (a' := ?_) ?_ ?_
    rotate_left
    · simp only [putAll, Act.put, List.setIfInBounds_toArray, List.set_cons_zero, List.set_cons_succ]
      rfl
    refine one_ (i := 6) (N := some 9) #[true, true, true, true, true, true, true, false] rfl rfl (one_of HT_.out (by kernel_rfl)) (by decide) (fun K hK => ?_)
    refine Kd.R_append_rows_step (Kd.int .i64) (w0 := w) w.heap.size (by rfl) (.tmp 5) (.tmp 8) 26 3 (.int .i64 0) 8 rfl Tryd.underlying26 info3 rfl (by decide) (by omega) v842 t841 y844 _ _ _ (fun k_ => some k_ ≠ (.slice Ao11 y844.length co11 : Value).ownBlock) (fun _ => False) rfl rfl ?aO ?aR (fun _ _ h => h) (fun _ h => h.elim) ?aF ?aB ?aS ?aL ?_
    (case aR => repeat (first | exact (Kd.R_reads' HO846.out).2.2 | (with_reducible refine Kd.C_alloc ?_ _) | (with_reducible refine Kd.C_drewN ?_ _) | (with_reducible refine Kd.C_drew ?_)))
    (case aB => exact (by repeat (first | (with_reducible first | exact HB.out | apply below_alloc | apply pw_below_drewN | apply below_drew1 | refine below_set ?_ GE840.out) | exact HB.out)))
    (case aF => exact (fun k_ hk => Kd.fresh' (Kd.R_lt (by (with_reducible repeat (first | apply Kd.R_alloc | apply Kd.R_drewN | apply Kd.R_drew)); exact HO846.out)) k_ hk))
    (case aO => exact (by (with_reducible repeat (first | apply Kd.R_alloc | apply Kd.R_drewN | apply Kd.R_drew)); exact HO843.out))
    (case aS => exact (below_size (by repeat (first | (with_reducible first | exact HB.out | apply below_alloc | apply pw_below_drewN | apply below_drew1 | refine below_set ?_ GE840.out) | exact HB.out))))
    (case aL => have := LMc3.out; omega)
    intro v848 w10 ho hb hg hat
    rw [← Ny847.out] at ho
    have n0_ := Aside0.mk (blk_grown (g := gb840) (o := .cells #[.slice A0_0 l0_0.length c0_0, .int .i64 a0_1, .int .i64 a0_2] 54 (0, 0)) (by (with_reducible repeat (first | refine blk_drewN ?_ _ | refine blk_drew ?_ | refine blk_alloc ?_ _)); exact BK840.out) hg (Kd.R_ne HO843.out BK840.out (by decide)))
    have n1_ := Aside0.mk (Kd.R_after (ok := (fun _ => True)) (by (with_reducible repeat (first | apply Kd.R_alloc | apply Kd.R_drewN | apply Kd.R_drew)); exact Kd.R_mono HO846.out (fun _ hk => ⟨trivial, hk⟩)) hg hat)
    have n2_ := Aside0.mk (hb)
    have n3_ := Aside0.mk (ho)
    clear BK840
    clear HO846
    clear HB
    clear HO843
    have BK840 := n0_
    have HO846 := n1_
    have HB := n2_
    have HO849 := n3_
    clear n0_ n1_ n2_ n3_
    clear ho hb hg hat
    refine hK.out _ _ ⟨(blk_cell BK840.out 0).trans rfl, (blk_cell BK840.out 1).trans rfl, (blk_cell BK840.out 2).trans rfl⟩ (fun hHeld => ?_)
    clear hK K
    refine norm_ (a' := ?_) ?_ ?_
    rotate_left
    · show Act.put _ (some 9) _ = _
      simp only [Act.put, List.setIfInBounds_toArray, List.set_cons_zero, List.set_cons_succ, i64_w, i32_w]
      rfl
    refine pure_ (i := 7) (N := some 2) (v := ?_) (a' := ?_) #[true, true, true, true, true, true, true, true] rfl rfl (any_of HT_.out (by kernel_rfl)) (fun _ _ _ h => h) (Or.inl ⟨by rfl, ?_⟩) ?_ ?_
    rotate_left
    · intro w'
      go_simp
      first | with_reducible rfl | (rw [own_len_N ?hl_ ?hu_]; (case hl_ => assumption); (case hu_ => kernel_rfl); (try with_reducible rfl)) | (rw [own_len_R ?hl_ ?hu_]; (case hl_ => assumption); (case hu_ => kernel_rfl); (try with_reducible rfl))
    rotate_left
    · simp only [Act.put, List.setIfInBounds_toArray, List.set_cons_zero, List.set_cons_succ, i64_w, i32_w]
      rfl
    refine done_ (done_of HT_.out (by kernel_rfl)) ?_
    try go_wp2
    go_ret
    exact ⟨_, by first | rfl | (simp [errW_none, errW_some] <;> rfl) | (simp [*, errW_none, errW_some] <;> rfl), by (with_reducible repeat (first | apply Kd.R_alloc | apply Kd.R_drewN | apply Kd.R_drew)); exact Kd.R_mono HO849.out (fun _ hk => trivial), by repeat (first | (with_reducible first | exact HB.out | apply below_alloc | apply pw_below_drewN | apply below_drew1 | refine below_set ?_ GE840.out) | exact HB.out)⟩
  · rw [if_neg c3] at H
    exact absurd H (by simp)
end Go.Proofs.YtagkhoeidjlahaaDoor.G
namespace Go.Proofs.YtagkhoeidjlahaaDoor.G
open Go.RowKit Go.Proofs.YtagkhoeidjlahaaDoorW.PrintWords Go.Proofs.YtagkhoeidjlahaaDoorW.PrintLast Go.Proofs.YtagkhoeidjlahaaDoorW.PrintMore
attribute [local go_sem] max2_int min2_int max_two min_two max_three min_three max_four min_four
set_option linter.unusedVariables false
set_option linter.unusedSimpArgs false
def vinculumref11_End.f (l0_0 : List Int) (a0_1 : Int) (a0_2 : Int) : Option (List Int) := (some (([] : List Int) : List Int)).bind fun y851 => (if y851.length + l0_0.length < 17592186044416 then ((some (y851 ++ l0_0 : List Int)).bind fun y854 => ((some (([a0_2] : List Int) : List Int)).bind fun y857 => (if y854.length + y857.length < 17592186044416 then (some (y854 ++ y857)) else (none)))) else (none))
def vinculumref11_End.T1 : Bool × List (List Nat × List Nat) := (true, [([], []), ([], []), ([1], [1]), ([0, 2], [0, 2]), ([], []), ([4], [4]), ([5], [5]), ([3, 6, 3], [3, 6]), ([7, 7, 0, 1, 2, 3, 4, 5, 6, 7], [7])])
def vinculumref11_End.B1 : List Nat := [0, 0, 2, 7, 0, 16, 48, 127, 255]
theorem vinculumref11_End.tab1 : rtab .any (opsOf Tryd.f57 1) = vinculumref11_End.T1 := by kernel_rfl
theorem vinculumref11_End.bits1 : waitsOk vinculumref11_End.T1.2 vinculumref11_End.B1 = true := by kernel_rfl
set_option maxHeartbeats 8000000 in
set_option maxRecDepth 100000 in
theorem vinculumref11_End.calls (A0_0 : Option Addr) (c0_0 : Nat) (l0_0 : List Int) (a0_1 : Int) (a0_2 : Int) (r : List Int) (w : World) (hr0_0 : Kd.C (Kd.int .i64) w A0_0 l0_0.length l0_0) (hc0_0 : l0_0.length ≤ c0_0) (h : vinculumref11_End.f l0_0 a0_1 a0_2 = some r) :
    Calls Tryd.prog 57 #[.agg #[.slice A0_0 l0_0.length c0_0, .int .i64 a0_1, .int .i64 a0_2]] w fun e w' => ∃ v0_ : Value, e = .returned (v0_) ∧ Kd.R (Kd.int .i64) 3 w' w.heap.size (fun _ => True) v0_ r ∧ Below w.heap.size w w' := by
  have hu54 := Tryd.underlying54
  have HR0_0 := Aside0.mk hr0_0
  have HC0_0 := Aside0.mk hc0_0
  clear hr0_0 hc0_0
  have HB := Aside0.mk (Below.refl w.heap.size w)
  have H : ((some (([] : List Int) : List Int)).bind fun y851 => (if y851.length + l0_0.length < 17592186044416 then ((some (y851 ++ l0_0 : List Int)).bind fun y854 => ((some (([a0_2] : List Int) : List Int)).bind fun y857 => (if y854.length + y857.length < 17592186044416 then (some (y854 ++ y857)) else (none)))) else (none))) = some r := h
  clear h
  obtain ⟨y851, hy851⟩ : ∃ y_ : List Int, y_ = (([] : List Int)) := ⟨_, rfl⟩
  replace H : (if y851.length + l0_0.length < 17592186044416 then ((some (y851 ++ l0_0 : List Int)).bind fun y854 => ((some (([a0_2] : List Int) : List Int)).bind fun y857 => (if y854.length + y857.length < 17592186044416 then (some (y854 ++ y857)) else (none)))) else (none)) = some r := by first | (rw [hy851]; with_reducible exact H) | (have H2_ := (Option.bind_some _ _).symm.trans H; rw [hy851]; with_reducible exact H2_) | (have H2_ := (Option.bind_some _ _).symm.trans H; with_reducible exact H2_) | with_reducible exact H | (rw [hy851]; exact H) | exact H
  have Ny851 := Aside0.mk hy851
  clear hy851
  by_cases c2 : y851.length + l0_0.length < 17592186044416
  · rw [if_pos c2] at H
    have LMc2 := Aside0.mk c2
    clear c2
    obtain ⟨y854, hy854⟩ : ∃ y_ : List Int, y_ = (y851 ++ l0_0) := ⟨_, rfl⟩
    replace H : ((some (([a0_2] : List Int) : List Int)).bind fun y857 => (if y854.length + y857.length < 17592186044416 then (some (y854 ++ y857)) else (none))) = some r := by first | (rw [hy854]; with_reducible exact H) | (have H2_ := (Option.bind_some _ _).symm.trans H; rw [hy854]; with_reducible exact H2_) | (have H2_ := (Option.bind_some _ _).symm.trans H; with_reducible exact H2_) | with_reducible exact H | (rw [hy854]; exact H) | exact H
    have Ny854 := Aside0.mk hy854
    clear hy854
    obtain ⟨y857, hy857⟩ : ∃ y_ : List Int, y_ = (([a0_2] : List Int)) := ⟨_, rfl⟩
    replace H : (if y854.length + y857.length < 17592186044416 then (some (y854 ++ y857)) else (none)) = some r := by first | (rw [hy857]; with_reducible exact H) | (have H2_ := (Option.bind_some _ _).symm.trans H; rw [hy857]; with_reducible exact H2_) | (have H2_ := (Option.bind_some _ _).symm.trans H; with_reducible exact H2_) | with_reducible exact H | (rw [hy857]; exact H) | exact H
    have Ny857 := Aside0.mk hy857
    clear hy857
    by_cases c3 : y854.length + y857.length < 17592186044416
    · rw [if_pos c3] at H
      have LMc3 := Aside0.mk c3
      clear c3
      obtain ⟨y860, hy860⟩ : ∃ y_ : List Int, y_ = (y854 ++ y857) := ⟨_, rfl⟩
      replace H : (some y860) = some r := by first | (rw [hy860]; with_reducible exact H) | (have H2_ := (Option.bind_some _ _).symm.trans H; rw [hy860]; with_reducible exact H2_) | (have H2_ := (Option.bind_some _ _).symm.trans H; with_reducible exact H2_) | with_reducible exact H | (rw [hy860]; exact H) | exact H
      have Ny860 := Aside0.mk hy860
      clear hy860
      obtain rfl := Option.some.inj H
      go_enter Tryd.func57, Tryd.ntmps57
      try go_wp2_with (first | ((with_reducible refine gate_dst (N := 1) rfl ?_); refine box_event ?hg (N := 1) ?hd (cs := #[.slice A0_0 l0_0.length c0_0, .int .i64 a0_1, .int .i64 a0_2]) (t := 54) ?hr ?_; (case hd => rfl); (case hg => rfl); (case hr => first | (go_simp; done) | (go_simp; rfl)); intro gb850 hg w4 hbox hb; have n0_ := Aside0.mk (below_step (by repeat (first | (with_reducible first | exact HB.out | apply below_alloc | apply pw_below_drewN | apply below_drew1) | exact HB.out)) hb); have n1_ := Aside0.mk (hbox); have n2_ := Aside0.mk ((by rw [hg]; exact (below_size (by repeat (first | (with_reducible first | exact HB.out | apply below_alloc | apply pw_below_drewN | apply below_drew1) | exact HB.out))) : w.heap.size ≤ gb850)); have n3_ := Aside0.mk ((by rw [hg]; exact (below_size (by repeat (first | (with_reducible first | exact HB.out | apply below_alloc | apply pw_below_drewN | apply below_drew1) | exact HB.out))) : w.heap.size ≤ gb850)); clear HB; have HB := n0_; have BK850 := n1_; have GW850 := n2_; have GE850 := n3_; clear n0_ n1_ n2_ n3_; clear hb hbox hg))
      have n0_ := Aside0.mk (blk_drew BK850.out)
      have n1_ := Aside0.mk (below_drew1 HB.out)
      clear BK850
      clear HB
      have BK850 := n0_
      have HB := n1_
      clear n0_ n1_
      refine start_ (n := 9) (S := fun w' => w'.cell? ⟨gb850, 0, none⟩ = some (.slice A0_0 l0_0.length c0_0) ∧ w'.cell? ⟨gb850, 1, none⟩ = some (.int .i64 a0_1) ∧ w'.cell? ⟨gb850, 2, none⟩ = some (.int .i64 a0_2)) (ds := []) #[false, false, false, false, false, false, false, false, false] (by kernel_rfl) rfl rfl ⟨(blk_cell BK850.out 0).trans rfl, (blk_cell BK850.out 1).trans rfl, (blk_cell BK850.out 2).trans rfl⟩ (fun hHeld => ?_); refine with_tabW vinculumref11_End.tab1 vinculumref11_End.bits1 (fun HT_ HW_ => ?_)
      generalize w4.drew = w5 at BK850 HB hHeld ⊢
      refine pure_ (i := 1) (N := some 4) (v := ?_) (a' := ?_) #[false, true, false, false, false, false, false, false, false] rfl rfl (any_of HT_.out (by kernel_rfl)) (fun _ _ _ h => h) (Or.inl ⟨by rfl, ?_⟩) ?_ ?_
      rotate_left
      · intro w'
        go_simp
        first | with_reducible rfl | (rw [own_len_N ?hl_ ?hu_]; (case hl_ => assumption); (case hu_ => kernel_rfl); (try with_reducible rfl)) | (rw [own_len_R ?hl_ ?hu_]; (case hl_ => assumption); (case hu_ => kernel_rfl); (try with_reducible rfl))
      rotate_left
      · simp only [Act.put, List.setIfInBounds_toArray, List.set_cons_zero, List.set_cons_succ, i64_w, i32_w]
        rfl
      refine pure_ (i := 4) (N := some 7) (v := ?_) (a' := ?_) #[false, true, false, false, true, false, false, false, false] rfl rfl (any_of HT_.out (by kernel_rfl)) (fun _ _ _ h => h) (Or.inl ⟨by rfl, ?_⟩) ?_ ?_
      rotate_left
      · intro w'
        go_simp
        first | with_reducible rfl | (rw [own_len_N ?hl_ ?hu_]; (case hl_ => assumption); (case hu_ => kernel_rfl); (try with_reducible rfl)) | (rw [own_len_R ?hl_ ?hu_]; (case hl_ => assumption); (case hu_ => kernel_rfl); (try with_reducible rfl))
      rotate_left
      · simp only [Act.put, List.setIfInBounds_toArray, List.set_cons_zero, List.set_cons_succ, i64_w, i32_w]
        rfl
      refine take_ (i := 2) (N := some 5) (v := ?_) (a' := ?_) #[false, true, true, false, true, false, false, false, false] rfl rfl (take_ofW HT_.out HW_.out (by kernel_rfl)) (fun _ _ _ h => h) (Or.inl ⟨by rfl, ?_⟩) hHeld ?_ ?_
      rotate_left
      · rintro w' ⟨s0, s1, s2⟩
        go_simp
        with_reducible rfl
      rotate_left
      · simp only [Act.put, List.setIfInBounds_toArray, List.set_cons_zero, List.set_cons_succ, i64_w, i32_w]
        rfl
      refine take_ (i := 5) (N := some 8) (v := ?_) (a' := ?_) #[false, true, true, false, true, true, false, false, false] rfl rfl (take_ofW HT_.out HW_.out (by kernel_rfl)) (fun _ _ _ h => h) (Or.inl ⟨by rfl, ?_⟩) hHeld ?_ ?_
      rotate_left
      · rintro w' ⟨s0, s1, s2⟩
        go_simp
        with_reducible rfl
      rotate_left
      · simp only [Act.put, List.setIfInBounds_toArray, List.set_cons_zero, List.set_cons_succ, i64_w, i32_w]
        rfl
      refine join_ (σ := Value × Value × Value) 2 #[true, true, true, true, true, true, true, false, false] (fun s_ => [(3, s_.1), (6, s_.2.1), (9, s_.2.2)]) (fun s_ w' => (w'.cell? ⟨gb850, 0, none⟩ = some (.slice A0_0 l0_0.length c0_0) ∧ w'.cell? ⟨gb850, 1, none⟩ = some (.int .i64 a0_1) ∧ w'.cell? ⟨gb850, 2, none⟩ = some (.int .i64 a0_2)) ∧ (Kd.R (Kd.int .i64) 3 w' w.heap.size (fun k_ => some k_ ≠ (s_.2.2 : Value).ownBlock) s_.2.1 y854) ∧ (Kd.R (Kd.int .i64) 3 w' w.heap.size (fun k_ => some k_ ≠ (s_.2.1 : Value).ownBlock) s_.2.2 y857) ∧ (w'.heap[gb850]? = some (.cells #[.slice A0_0 l0_0.length c0_0, .int .i64 a0_1, .int .i64 a0_2] 54 (0, 0))) ∧ (Below w.heap.size w w')) ?_ ?_
      rotate_left
      · intro hCont
        refine two_ (i := 0) (j := 6) (Ni := some 3) (Nj := some 9) #[true, true, true, false, true, true, false, false, false] #[false, true, true, false, true, true, true, false, false] rfl rfl rfl rfl (two_of HT_.out (by kernel_rfl)) (by decide) (by decide) (fun K hK => ?_) (fun K hK => ?_)
        · skip
          refine Kd.R_lit_step (Kd.int .i64) _ 3 ?hg (N := 3) ?hd (xs := ([] : List Int)) (inner := []) (ok := fun _ => True) (okp := fun _ => True) ?hr ?hp (fun _ hk => hk) trivial (Below.refl _ _) (Nat.le_refl _) (by simp) ?_; (case hd => rfl); (case hg => rfl); (case hr => first | (go_simp; done) | (go_simp; rfl)); (case hp => exact (Reps.none _ _))
          intro v852 w6 ho7 hb hg_ hnew_
          clear hg_ hnew_
          (first | rw [← Ny851.out] at ho7 | (simp only [Int.reduceToNat] at ho7; rw [← Ny851.out] at ho7))
          have n0_ := Aside0.mk (Kd.R_lower ho7 (below_size (by repeat (first | (with_reducible first | exact HB.out | apply below_alloc | apply pw_below_drewN | apply below_drew1 | refine below_set ?_ GE850.out) | exact HB.out))))
          have n1_ := Aside0.mk (blk_below (g := gb850) (o := .cells #[.slice A0_0 l0_0.length c0_0, .int .i64 a0_1, .int .i64 a0_2] 54 (0, 0)) (by (with_reducible repeat (first | refine blk_drewN ?_ _ | refine blk_drew ?_ | refine blk_alloc ?_ _)); exact BK850.out) hb)
          have n2_ := Aside0.mk (below_step (by repeat (first | (with_reducible first | exact HB.out | apply below_alloc | apply pw_below_drewN | apply below_drew1 | refine below_set ?_ GE850.out) | exact HB.out)) hb)
          clear BK850
          clear HB
          have HO853 := n0_
          have BK850 := n1_
          have HB := n2_
          clear n0_ n1_ n2_
          clear hb ho7
          refine hK.out _ _ ⟨(blk_cell BK850.out 0).trans rfl, (blk_cell BK850.out 1).trans rfl, (blk_cell BK850.out 2).trans rfl⟩ (fun hHeld => ?_)
          clear hK K
          refine norm_ (a' := ?_) ?_ ?_
          rotate_left
          · show Act.put _ (some 3) _ = _
            simp only [Act.put, List.setIfInBounds_toArray, List.set_cons_zero, List.set_cons_succ, i64_w, i32_w]
            rfl
          refine two_ (i := 3) (j := 6) (Ni := some 6) (Nj := some 9) #[true, true, true, true, true, true, false, false, false] #[true, true, true, false, true, true, true, false, false] rfl rfl rfl rfl (two_of HT_.out (by kernel_rfl)) (by decide) (by decide) (fun K hK => ?_) (fun K hK => ?_)
          · skip
            refine Kd.R_append_rows_step (Kd.int .i64) (w0 := w) w.heap.size (by rfl) (.tmp 3) (.tmp 5) 26 3 (.int .i64 0) 8 rfl Tryd.underlying26 info3 rfl (by decide) (by omega) v852 y851 l0_0 _ _ _ (fun _ => True) (fun _ => False) rfl rfl ?aO ?aR (fun _ _ h => h) (fun _ h => h.elim) ?aF ?aB ?aS ?aL ?_
            (case aR => repeat (first | exact (Kd.C_below HR0_0.out HB.out) | (with_reducible refine Kd.C_alloc ?_ _) | (with_reducible refine Kd.C_drewN ?_ _) | (with_reducible refine Kd.C_drew ?_)))
            (case aB => exact (by repeat (first | (with_reducible first | exact HB.out | apply below_alloc | apply pw_below_drewN | apply below_drew1 | refine below_set ?_ GE850.out) | exact HB.out)))
            (case aF => exact (fun _ _ => trivial))
            (case aO => exact (by (with_reducible repeat (first | apply Kd.R_alloc | apply Kd.R_drewN | apply Kd.R_drew)); exact HO853.out))
            (case aS => exact (below_size (by repeat (first | (with_reducible first | exact HB.out | apply below_alloc | apply pw_below_drewN | apply below_drew1 | refine below_set ?_ GE850.out) | exact HB.out))))
            (case aL => have := LMc2.out; omega)
            intro v855 w8 ho hb hg hat
            rw [← Ny854.out] at ho
            have n0_ := Aside0.mk (blk_grown (g := gb850) (o := .cells #[.slice A0_0 l0_0.length c0_0, .int .i64 a0_1, .int .i64 a0_2] 54 (0, 0)) (by (with_reducible repeat (first | refine blk_drewN ?_ _ | refine blk_drew ?_ | refine blk_alloc ?_ _)); exact BK850.out) hg (Kd.R_ne HO853.out BK850.out (by decide)))
            have n1_ := Aside0.mk (hb)
            have n2_ := Aside0.mk (ho)
            clear BK850
            clear HB
            clear HO853
            have BK850 := n0_
            have HB := n1_
            have HO856 := n2_
            clear n0_ n1_ n2_
            clear ho hb hg hat
            refine hK.out _ _ ⟨(blk_cell BK850.out 0).trans rfl, (blk_cell BK850.out 1).trans rfl, (blk_cell BK850.out 2).trans rfl⟩ (fun hHeld => ?_)
            clear hK K
            refine norm_ (a' := ?_) ?_ ?_
            rotate_left
            · show Act.put _ (some 6) _ = _
              simp only [Act.put, List.setIfInBounds_toArray, List.set_cons_zero, List.set_cons_succ, i64_w, i32_w]
              rfl
            refine one_ (i := 6) (N := some 9) #[true, true, true, true, true, true, true, false, false] rfl rfl (one_of HT_.out (by kernel_rfl)) (by decide) (fun K hK => ?_)
            refine Kd.R_lit_step (Kd.int .i64) _ 3 ?hg (N := 9) ?hd (xs := ([a0_2] : List Int)) (inner := [.int .i64 a0_2]) (ok := fun _ => True) (okp := fun _ => True) ?hr ?hp (fun _ hk => hk) trivial (Below.refl _ _) (Nat.le_refl _) (by simp) ?_; (case hd => rfl); (case hg => rfl); (case hr => first | (go_simp; done) | (go_simp; rfl)); (case hp => exact (Reps.one (show Kd.M (Kd.int .i64) _ _ _ a0_2 [.int .i64 a0_2] from rfl) (Reps.none _ _)))
            intro v858 w9 ho10 hb hg_ hnew_
            clear hg_ hnew_
            (first | rw [← Ny857.out] at ho10 | (simp only [Int.reduceToNat] at ho10; rw [← Ny857.out] at ho10))
            have n0_ := Aside0.mk (Kd.R_elder' (by (with_reducible repeat (first | apply Kd.R_alloc | apply Kd.R_drewN | apply Kd.R_drew)); exact HO856.out) (Kd.R_base ho10) hb)
            have n1_ := Aside0.mk (Kd.R_lower (Kd.R_new' ho10 (Kd.R_lt (by (with_reducible repeat (first | apply Kd.R_alloc | apply Kd.R_drewN | apply Kd.R_drew)); exact HO856.out))) (below_size (by repeat (first | (with_reducible first | exact HB.out | apply below_alloc | apply pw_below_drewN | apply below_drew1 | refine below_set ?_ GE850.out) | exact HB.out))))
            have n2_ := Aside0.mk (blk_below (g := gb850) (o := .cells #[.slice A0_0 l0_0.length c0_0, .int .i64 a0_1, .int .i64 a0_2] 54 (0, 0)) (by (with_reducible repeat (first | refine blk_drewN ?_ _ | refine blk_drew ?_ | refine blk_alloc ?_ _)); exact BK850.out) hb)
            have n3_ := Aside0.mk (below_step (by repeat (first | (with_reducible first | exact HB.out | apply below_alloc | apply pw_below_drewN | apply below_drew1 | refine below_set ?_ GE850.out) | exact HB.out)) hb)
            clear HO856
            clear BK850
            clear HB
            have HO856 := n0_
            have HO859 := n1_
            have BK850 := n2_
            have HB := n3_
            clear n0_ n1_ n2_ n3_
            clear hb ho10
            refine hK.out _ _ ⟨(blk_cell BK850.out 0).trans rfl, (blk_cell BK850.out 1).trans rfl, (blk_cell BK850.out 2).trans rfl⟩ (fun hHeld => ?_)
            clear hK K
            refine norm_ (a' := ?_) ?_ ?_
            rotate_left
            · show Act.put _ (some 9) _ = _
              simp only [Act.put, List.setIfInBounds_toArray, List.set_cons_zero, List.set_cons_succ, i64_w, i32_w]
              rfl
            exact norm_ (by simp only [putAll, Act.put, List.setIfInBounds_toArray, List.set_cons_zero, List.set_cons_succ]) (hCont (v852, v855, v858) _ ⟨hHeld, (by (with_reducible repeat (first | apply Kd.R_alloc | apply Kd.R_drewN | apply Kd.R_drew)); exact Kd.R_mono HO856.out (fun _ hk => hk.2)), (by (with_reducible repeat (first | apply Kd.R_alloc | apply Kd.R_drewN | apply Kd.R_drew)); exact Kd.R_mono HO859.out (fun _ hk => hk.2)), (by (with_reducible repeat (first | refine blk_drewN ?_ _ | refine blk_drew ?_ | refine blk_alloc ?_ _)); exact BK850.out), (by repeat (first | (with_reducible first | exact HB.out | apply below_alloc | apply pw_below_drewN | apply below_drew1 | refine below_set ?_ GE850.out) | exact HB.out))⟩)
          · skip
            refine Kd.R_lit_step (Kd.int .i64) _ 3 ?hg (N := 9) ?hd (xs := ([a0_2] : List Int)) (inner := [.int .i64 a0_2]) (ok := fun _ => True) (okp := fun _ => True) ?hr ?hp (fun _ hk => hk) trivial (Below.refl _ _) (Nat.le_refl _) (by simp) ?_; (case hd => rfl); (case hg => rfl); (case hr => first | (go_simp; done) | (go_simp; rfl)); (case hp => exact (Reps.one (show Kd.M (Kd.int .i64) _ _ _ a0_2 [.int .i64 a0_2] from rfl) (Reps.none _ _)))
            intro v858 w8 ho9 hb hg_ hnew_
            clear hg_ hnew_
            (first | rw [← Ny857.out] at ho9 | (simp only [Int.reduceToNat] at ho9; rw [← Ny857.out] at ho9))
            have n0_ := Aside0.mk (Kd.R_elder' (by (with_reducible repeat (first | apply Kd.R_alloc | apply Kd.R_drewN | apply Kd.R_drew)); exact HO853.out) (Kd.R_base ho9) hb)
            have n1_ := Aside0.mk (Kd.R_lower (Kd.R_new' ho9 (Kd.R_lt (by (with_reducible repeat (first | apply Kd.R_alloc | apply Kd.R_drewN | apply Kd.R_drew)); exact HO853.out))) (below_size (by repeat (first | (with_reducible first | exact HB.out | apply below_alloc | apply pw_below_drewN | apply below_drew1 | refine below_set ?_ GE850.out) | exact HB.out))))
            have n2_ := Aside0.mk (blk_below (g := gb850) (o := .cells #[.slice A0_0 l0_0.length c0_0, .int .i64 a0_1, .int .i64 a0_2] 54 (0, 0)) (by (with_reducible repeat (first | refine blk_drewN ?_ _ | refine blk_drew ?_ | refine blk_alloc ?_ _)); exact BK850.out) hb)
            have n3_ := Aside0.mk (below_step (by repeat (first | (with_reducible first | exact HB.out | apply below_alloc | apply pw_below_drewN | apply below_drew1 | refine below_set ?_ GE850.out) | exact HB.out)) hb)
            clear HO853
            clear BK850
            clear HB
            have HO853 := n0_
            have HO859 := n1_
            have BK850 := n2_
            have HB := n3_
            clear n0_ n1_ n2_ n3_
            clear hb ho9
            refine hK.out _ _ ⟨(blk_cell BK850.out 0).trans rfl, (blk_cell BK850.out 1).trans rfl, (blk_cell BK850.out 2).trans rfl⟩ (fun hHeld => ?_)
            clear hK K
            refine norm_ (a' := ?_) ?_ ?_
            rotate_left
            · show Act.put _ (some 9) _ = _
              simp only [Act.put, List.setIfInBounds_toArray, List.set_cons_zero, List.set_cons_succ, i64_w, i32_w]
              rfl
            refine one_ (i := 3) (N := some 6) #[true, true, true, true, true, true, true, false, false] rfl rfl (one_of HT_.out (by kernel_rfl)) (by decide) (fun K hK => ?_)
            refine Kd.R_append_rows_step (Kd.int .i64) (w0 := w) w.heap.size (by rfl) (.tmp 3) (.tmp 5) 26 3 (.int .i64 0) 8 rfl Tryd.underlying26 info3 rfl (by decide) (by omega) v852 y851 l0_0 _ _ _ (fun k_ => some k_ ≠ (v858 : Value).ownBlock) (fun _ => False) rfl rfl ?aO ?aR (fun _ _ h => h) (fun _ h => h.elim) ?aF ?aB ?aS ?aL ?_
            (case aR => repeat (first | exact (Kd.C_below HR0_0.out HB.out) | (with_reducible refine Kd.C_alloc ?_ _) | (with_reducible refine Kd.C_drewN ?_ _) | (with_reducible refine Kd.C_drew ?_)))
            (case aB => exact (by repeat (first | (with_reducible first | exact HB.out | apply below_alloc | apply pw_below_drewN | apply below_drew1 | refine below_set ?_ GE850.out) | exact HB.out)))
            (case aF => exact (fun k_ hk => Kd.fresh' (Kd.R_lt (by (with_reducible repeat (first | apply Kd.R_alloc | apply Kd.R_drewN | apply Kd.R_drew)); exact HO859.out)) k_ hk))
            (case aO => exact (by (with_reducible repeat (first | apply Kd.R_alloc | apply Kd.R_drewN | apply Kd.R_drew)); exact Kd.R_mono HO853.out (fun _ hk => hk.2)))
            (case aS => exact (below_size (by repeat (first | (with_reducible first | exact HB.out | apply below_alloc | apply pw_below_drewN | apply below_drew1 | refine below_set ?_ GE850.out) | exact HB.out))))
            (case aL => have := LMc2.out; omega)
            intro v855 w10 ho hb hg hat
            rw [← Ny854.out] at ho
            have n0_ := Aside0.mk (blk_grown (g := gb850) (o := .cells #[.slice A0_0 l0_0.length c0_0, .int .i64 a0_1, .int .i64 a0_2] 54 (0, 0)) (by (with_reducible repeat (first | refine blk_drewN ?_ _ | refine blk_drew ?_ | refine blk_alloc ?_ _)); exact BK850.out) hg (Kd.R_ne HO853.out BK850.out (by decide)))
            have n1_ := Aside0.mk (Kd.R_after (ok := (fun _ => True)) (by (with_reducible repeat (first | apply Kd.R_alloc | apply Kd.R_drewN | apply Kd.R_drew)); exact HO859.out) hg hat)
            have n2_ := Aside0.mk (hb)
            have n3_ := Aside0.mk (ho)
            clear BK850
            clear HO859
            clear HB
            clear HO853
            have BK850 := n0_
            have HO859 := n1_
            have HB := n2_
            have HO856 := n3_
            clear n0_ n1_ n2_ n3_
            clear ho hb hg hat
            refine hK.out _ _ ⟨(blk_cell BK850.out 0).trans rfl, (blk_cell BK850.out 1).trans rfl, (blk_cell BK850.out 2).trans rfl⟩ (fun hHeld => ?_)
            clear hK K
            refine norm_ (a' := ?_) ?_ ?_
            rotate_left
            · show Act.put _ (some 6) _ = _
              simp only [Act.put, List.setIfInBounds_toArray, List.set_cons_zero, List.set_cons_succ, i64_w, i32_w]
              rfl
            exact norm_ (by simp only [putAll, Act.put, List.setIfInBounds_toArray, List.set_cons_zero, List.set_cons_succ]) (hCont (v852, v855, v858) _ ⟨hHeld, (by (with_reducible repeat (first | apply Kd.R_alloc | apply Kd.R_drewN | apply Kd.R_drew)); exact HO856.out), (by (with_reducible repeat (first | apply Kd.R_alloc | apply Kd.R_drewN | apply Kd.R_drew)); exact Kd.R_mono HO859.out (fun _ hk => hk.2)), (by (with_reducible repeat (first | refine blk_drewN ?_ _ | refine blk_drew ?_ | refine blk_alloc ?_ _)); exact BK850.out), (by repeat (first | (with_reducible first | exact HB.out | apply below_alloc | apply pw_below_drewN | apply below_drew1 | refine below_set ?_ GE850.out) | exact HB.out))⟩)
        · skip
          refine Kd.R_lit_step (Kd.int .i64) _ 3 ?hg (N := 9) ?hd (xs := ([a0_2] : List Int)) (inner := [.int .i64 a0_2]) (ok := fun _ => True) (okp := fun _ => True) ?hr ?hp (fun _ hk => hk) trivial (Below.refl _ _) (Nat.le_refl _) (by simp) ?_; (case hd => rfl); (case hg => rfl); (case hr => first | (go_simp; done) | (go_simp; rfl)); (case hp => exact (Reps.one (show Kd.M (Kd.int .i64) _ _ _ a0_2 [.int .i64 a0_2] from rfl) (Reps.none _ _)))
          intro v858 w6 ho7 hb hg_ hnew_
          clear hg_ hnew_
          (first | rw [← Ny857.out] at ho7 | (simp only [Int.reduceToNat] at ho7; rw [← Ny857.out] at ho7))
          have n0_ := Aside0.mk (Kd.R_lower ho7 (below_size (by repeat (first | (with_reducible first | exact HB.out | apply below_alloc | apply pw_below_drewN | apply below_drew1 | refine below_set ?_ GE850.out) | exact HB.out))))
          have n1_ := Aside0.mk (blk_below (g := gb850) (o := .cells #[.slice A0_0 l0_0.length c0_0, .int .i64 a0_1, .int .i64 a0_2] 54 (0, 0)) (by (with_reducible repeat (first | refine blk_drewN ?_ _ | refine blk_drew ?_ | refine blk_alloc ?_ _)); exact BK850.out) hb)
          have n2_ := Aside0.mk (below_step (by repeat (first | (with_reducible first | exact HB.out | apply below_alloc | apply pw_below_drewN | apply below_drew1 | refine below_set ?_ GE850.out) | exact HB.out)) hb)
          clear BK850
          clear HB
          have HO859 := n0_
          have BK850 := n1_
          have HB := n2_
          clear n0_ n1_ n2_
          clear hb ho7
          refine hK.out _ _ ⟨(blk_cell BK850.out 0).trans rfl, (blk_cell BK850.out 1).trans rfl, (blk_cell BK850.out 2).trans rfl⟩ (fun hHeld => ?_)
          clear hK K
          refine norm_ (a' := ?_) ?_ ?_
          rotate_left
          · show Act.put _ (some 9) _ = _
            simp only [Act.put, List.setIfInBounds_toArray, List.set_cons_zero, List.set_cons_succ, i64_w, i32_w]
            rfl
          refine one_ (i := 0) (N := some 3) #[true, true, true, false, true, true, true, false, false] rfl rfl (one_of HT_.out (by kernel_rfl)) (by decide) (fun K hK => ?_)
          refine Kd.R_lit_step (Kd.int .i64) _ 3 ?hg (N := 3) ?hd (xs := ([] : List Int)) (inner := []) (ok := fun _ => True) (okp := fun _ => True) ?hr ?hp (fun _ hk => hk) trivial (Below.refl _ _) (Nat.le_refl _) (by simp) ?_; (case hd => rfl); (case hg => rfl); (case hr => first | (go_simp; done) | (go_simp; rfl)); (case hp => exact (Reps.none _ _))
          intro v852 w8 ho9 hb hg_ hnew_
          clear hg_ hnew_
          (first | rw [← Ny851.out] at ho9 | (simp only [Int.reduceToNat] at ho9; rw [← Ny851.out] at ho9))
          have n0_ := Aside0.mk (Kd.R_elder' (by (with_reducible repeat (first | apply Kd.R_alloc | apply Kd.R_drewN | apply Kd.R_drew)); exact HO859.out) (Kd.R_base ho9) hb)
          have n1_ := Aside0.mk (Kd.R_lower (Kd.R_new' ho9 (Kd.R_lt (by (with_reducible repeat (first | apply Kd.R_alloc | apply Kd.R_drewN | apply Kd.R_drew)); exact HO859.out))) (below_size (by repeat (first | (with_reducible first | exact HB.out | apply below_alloc | apply pw_below_drewN | apply below_drew1 | refine below_set ?_ GE850.out) | exact HB.out))))
          have n2_ := Aside0.mk (blk_below (g := gb850) (o := .cells #[.slice A0_0 l0_0.length c0_0, .int .i64 a0_1, .int .i64 a0_2] 54 (0, 0)) (by (with_reducible repeat (first | refine blk_drewN ?_ _ | refine blk_drew ?_ | refine blk_alloc ?_ _)); exact BK850.out) hb)
          have n3_ := Aside0.mk (below_step (by repeat (first | (with_reducible first | exact HB.out | apply below_alloc | apply pw_below_drewN | apply below_drew1 | refine below_set ?_ GE850.out) | exact HB.out)) hb)
          clear HO859
          clear BK850
          clear HB
          have HO859 := n0_
          have HO853 := n1_
          have BK850 := n2_
          have HB := n3_
          clear n0_ n1_ n2_ n3_
          clear hb ho9
          refine hK.out _ _ ⟨(blk_cell BK850.out 0).trans rfl, (blk_cell BK850.out 1).trans rfl, (blk_cell BK850.out 2).trans rfl⟩ (fun hHeld => ?_)
          clear hK K
          refine norm_ (a' := ?_) ?_ ?_
          rotate_left
          · show Act.put _ (some 3) _ = _
            simp only [Act.put, List.setIfInBounds_toArray, List.set_cons_zero, List.set_cons_succ, i64_w, i32_w]
            rfl
          refine one_ (i := 3) (N := some 6) #[true, true, true, true, true, true, true, false, false] rfl rfl (one_of HT_.out (by kernel_rfl)) (by decide) (fun K hK => ?_)
          refine Kd.R_append_rows_step (Kd.int .i64) (w0 := w) w.heap.size (by rfl) (.tmp 3) (.tmp 5) 26 3 (.int .i64 0) 8 rfl Tryd.underlying26 info3 rfl (by decide) (by omega) v852 y851 l0_0 _ _ _ (fun k_ => some k_ ≠ (v858 : Value).ownBlock) (fun _ => False) rfl rfl ?aO ?aR (fun _ _ h => h) (fun _ h => h.elim) ?aF ?aB ?aS ?aL ?_
          (case aR => repeat (first | exact (Kd.C_below HR0_0.out HB.out) | (with_reducible refine Kd.C_alloc ?_ _) | (with_reducible refine Kd.C_drewN ?_ _) | (with_reducible refine Kd.C_drew ?_)))
          (case aB => exact (by repeat (first | (with_reducible first | exact HB.out | apply below_alloc | apply pw_below_drewN | apply below_drew1 | refine below_set ?_ GE850.out) | exact HB.out)))
          (case aF => exact (fun k_ hk => Kd.fresh' (Kd.R_lt (by (with_reducible repeat (first | apply Kd.R_alloc | apply Kd.R_drewN | apply Kd.R_drew)); exact HO859.out)) k_ hk))
          (case aO => exact (by (with_reducible repeat (first | apply Kd.R_alloc | apply Kd.R_drewN | apply Kd.R_drew)); exact Kd.R_mono HO853.out (fun _ hk => hk.2)))
          (case aS => exact (below_size (by repeat (first | (with_reducible first | exact HB.out | apply below_alloc | apply pw_below_drewN | apply below_drew1 | refine below_set ?_ GE850.out) | exact HB.out))))
          (case aL => have := LMc2.out; omega)
          intro v855 w10 ho hb hg hat
          rw [← Ny854.out] at ho
          have n0_ := Aside0.mk (blk_grown (g := gb850) (o := .cells #[.slice A0_0 l0_0.length c0_0, .int .i64 a0_1, .int .i64 a0_2] 54 (0, 0)) (by (with_reducible repeat (first | refine blk_drewN ?_ _ | refine blk_drew ?_ | refine blk_alloc ?_ _)); exact BK850.out) hg (Kd.R_ne HO853.out BK850.out (by decide)))
          have n1_ := Aside0.mk (Kd.R_after (ok := (fun _ => True)) (by (with_reducible repeat (first | apply Kd.R_alloc | apply Kd.R_drewN | apply Kd.R_drew)); exact HO859.out) hg hat)
          have n2_ := Aside0.mk (hb)
          have n3_ := Aside0.mk (ho)
          clear BK850
          clear HO859
          clear HB
          clear HO853
          have BK850 := n0_
          have HO859 := n1_
          have HB := n2_
          have HO856 := n3_
          clear n0_ n1_ n2_ n3_
          clear ho hb hg hat
          refine hK.out _ _ ⟨(blk_cell BK850.out 0).trans rfl, (blk_cell BK850.out 1).trans rfl, (blk_cell BK850.out 2).trans rfl⟩ (fun hHeld => ?_)
          clear hK K
          refine norm_ (a' := ?_) ?_ ?_
          rotate_left
          · show Act.put _ (some 6) _ = _
            simp only [Act.put, List.setIfInBounds_toArray, List.set_cons_zero, List.set_cons_succ, i64_w, i32_w]
            rfl
          exact norm_ (by simp only [putAll, Act.put, List.setIfInBounds_toArray, List.set_cons_zero, List.set_cons_succ]) (hCont (v852, v855, v858) _ ⟨hHeld, (by (with_reducible repeat (first | apply Kd.R_alloc | apply Kd.R_drewN | apply Kd.R_drew)); exact HO856.out), (by (with_reducible repeat (first | apply Kd.R_alloc | apply Kd.R_drewN | apply Kd.R_drew)); exact Kd.R_mono HO859.out (fun _ hk => hk.2)), (by (with_reducible repeat (first | refine blk_drewN ?_ _ | refine blk_drew ?_ | refine blk_alloc ?_ _)); exact BK850.out), (by repeat (first | (with_reducible first | exact HB.out | apply below_alloc | apply pw_below_drewN | apply below_drew1 | refine below_set ?_ GE850.out) | exact HB.out))⟩)
      rintro ⟨v852, v855, v858⟩ w11 ⟨hS_, h0_, h1_, h2_, h3_⟩
      have n0_ : Aside0 (Kd.R (Kd.int .i64) 3 w11 w.heap.size (fun k_ => some k_ ≠ (v858 : Value).ownBlock) v855 y854) := ⟨h0_⟩
      have n1_ : Aside0 (Kd.R (Kd.int .i64) 3 w11 w.heap.size (fun k_ => some k_ ≠ (v855 : Value).ownBlock) v858 y857) := ⟨h1_⟩
      have n2_ : Aside0 (w11.heap[gb850]? = some (.cells #[.slice A0_0 l0_0.length c0_0, .int .i64 a0_1, .int .i64 a0_2] 54 (0, 0))) := ⟨h2_⟩
      have n3_ : Aside0 (Below w.heap.size w w11) := ⟨h3_⟩
      clear BK850
      clear HB
      clear h0_ h1_ h2_ h3_
      have HO856 := n0_
      have HO859 := n1_
      have BK850 := n2_
      have HB := n3_
      clear n0_ n1_ n2_ n3_
      have hHeld : w11.cell? ⟨gb850, 0, none⟩ = some (.slice A0_0 l0_0.length c0_0) ∧ w11.cell? ⟨gb850, 1, none⟩ = some (.int .i64 a0_1) ∧ w11.cell? ⟨gb850, 2, none⟩ = some (.int .i64 a0_2) := hS_
      obtain ⟨Ao13, co13, eo13⟩ := Kd.R_slice HO859.out
      (first | subst eo13 | (injection eo13 with f1_ f2_ f3_; have f4_ := f1_.symm; have f5_ := f3_.symm; clear f1_ f2_ f3_; subst f4_; subst f5_))
      refine norm_ (a' := ?_) ?_ ?_
      rotate_left
      · simp only [putAll, Act.put, List.setIfInBounds_toArray, List.set_cons_zero, List.set_cons_succ]
        rfl
      refine one_ (i := 7) (N := some 10) #[true, true, true, true, true, true, true, true, false] rfl rfl (one_of HT_.out (by kernel_rfl)) (by decide) (fun K hK => ?_)
      refine Kd.R_append_rows_step (Kd.int .i64) (w0 := w) w.heap.size (by rfl) (.tmp 6) (.tmp 9) 26 3 (.int .i64 0) 8 rfl Tryd.underlying26 info3 rfl (by decide) (by omega) v855 y854 y857 _ _ _ (fun k_ => some k_ ≠ (.slice Ao13 y857.length co13 : Value).ownBlock) (fun _ => False) rfl rfl ?aO ?aR (fun _ _ h => h) (fun _ h => h.elim) ?aF ?aB ?aS ?aL ?_
      (case aR => repeat (first | exact (Kd.R_reads' HO859.out).2.2 | (with_reducible refine Kd.C_alloc ?_ _) | (with_reducible refine Kd.C_drewN ?_ _) | (with_reducible refine Kd.C_drew ?_)))
      (case aB => exact (by repeat (first | (with_reducible first | exact HB.out | apply below_alloc | apply pw_below_drewN | apply below_drew1 | refine below_set ?_ GE850.out) | exact HB.out)))
      (case aF => exact (fun k_ hk => Kd.fresh' (Kd.R_lt (by (with_reducible repeat (first | apply Kd.R_alloc | apply Kd.R_drewN | apply Kd.R_drew)); exact HO859.out)) k_ hk))
      (case aO => exact (by (with_reducible repeat (first | apply Kd.R_alloc | apply Kd.R_drewN | apply Kd.R_drew)); exact HO856.out))
      (case aS => exact (below_size (by repeat (first | (with_reducible first | exact HB.out | apply below_alloc | apply pw_below_drewN | apply below_drew1 | refine below_set ?_ GE850.out) | exact HB.out))))
      (case aL => have := LMc3.out; omega)
      intro v861 w12 ho hb hg hat
      rw [← Ny860.out] at ho
      have n0_ := Aside0.mk (blk_grown (g := gb850) (o := .cells #[.slice A0_0 l0_0.length c0_0, .int .i64 a0_1, .int .i64 a0_2] 54 (0, 0)) (by (with_reducible repeat (first | refine blk_drewN ?_ _ | refine blk_drew ?_ | refine blk_alloc ?_ _)); exact BK850.out) hg (Kd.R_ne HO856.out BK850.out (by decide)))
      have n1_ := Aside0.mk (Kd.R_after (ok := (fun _ => True)) (by (with_reducible repeat (first | apply Kd.R_alloc | apply Kd.R_drewN | apply Kd.R_drew)); exact Kd.R_mono HO859.out (fun _ hk => ⟨trivial, hk⟩)) hg hat)
      have n2_ := Aside0.mk (hb)
      have n3_ := Aside0.mk (ho)
      clear BK850
      clear HO859
      clear HB
      clear HO856
      have BK850 := n0_
      have HO859 := n1_
      have HB := n2_
      have HO862 := n3_
      clear n0_ n1_ n2_ n3_
      clear ho hb hg hat
      refine hK.out _ _ ⟨(blk_cell BK850.out 0).trans rfl, (blk_cell BK850.out 1).trans rfl, (blk_cell BK850.out 2).trans rfl⟩ (fun hHeld => ?_)
      clear hK K
      refine norm_ (a' := ?_) ?_ ?_
      rotate_left
      · show Act.put _ (some 10) _ = _
        simp only [Act.put, List.setIfInBounds_toArray, List.set_cons_zero, List.set_cons_succ, i64_w, i32_w]
        rfl
      refine pure_ (i := 8) (N := some 2) (v := ?_) (a' := ?_) #[true, true, true, true, true, true, true, true, true] rfl rfl (any_of HT_.out (by kernel_rfl)) (fun _ _ _ h => h) (Or.inl ⟨by rfl, ?_⟩) ?_ ?_
      rotate_left
      · intro w'
        go_simp
        first | with_reducible rfl | (rw [own_len_N ?hl_ ?hu_]; (case hl_ => assumption); (case hu_ => kernel_rfl); (try with_reducible rfl)) | (rw [own_len_R ?hl_ ?hu_]; (case hl_ => assumption); (case hu_ => kernel_rfl); (try with_reducible rfl))
      rotate_left
      · simp only [Act.put, List.setIfInBounds_toArray, List.set_cons_zero, List.set_cons_succ, i64_w, i32_w]
        rfl
      refine done_ (done_of HT_.out (by kernel_rfl)) ?_
      try go_wp2
      go_ret
      exact ⟨_, by first | rfl | (simp [errW_none, errW_some] <;> rfl) | (simp [*, errW_none, errW_some] <;> rfl), by (with_reducible repeat (first | apply Kd.R_alloc | apply Kd.R_drewN | apply Kd.R_drew)); exact Kd.R_mono HO862.out (fun _ hk => trivial), by repeat (first | (with_reducible first | exact HB.out | apply below_alloc | apply pw_below_drewN | apply below_drew1 | refine below_set ?_ GE850.out) | exact HB.out)⟩
    · rw [if_neg c3] at H
      exact absurd H (by simp)
  · rw [if_neg c2] at H
    exact absurd H (by simp)
end Go.Proofs.YtagkhoeidjlahaaDoor.G
