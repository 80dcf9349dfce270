-- Written by pack2.py: this session's texts and the printer's, pruned.
import Derived.Test.YtagkhoeidjlahaaDoorCSe2
import Derived.Test.YtagkhoeidjlahaaDoorCSe31
import Derived.Test.YtagkhoeidjlahaaDoorCSe29
namespace Go.Proofs.YtagkhoeidjlahaaDoor.G
open Go.RowKit Go.Proofs.YtagkhoeidjlahaaDoorW.PrintWords Go.Proofs.YtagkhoeidjlahaaDoorW.PrintLast Go.Proofs.YtagkhoeidjlahaaDoorW.PrintMore
attribute [local go_sem] max2_int min2_int max_two min_two max_three min_three max_four min_four
set_option linter.unusedVariables false
set_option linter.unusedSimpArgs false
section awc
def sxNode (s : ByteArray) : S36 := ⟨2, s, 0, []⟩
def rowNode (l : List S36) : S36 := ⟨1, ⟨#[]⟩, 0, l⟩
theorem k_leaf (W : World) (s : ByteArray) : k36.K W (sxNode s) [.int .i64 2, .string s, .int .i64 0, .slice none 0 0] := k36_mk W (sxNode s) (A3 := none) (c3 := 0) (Nat.le_refl _) (Kd.C_nil _ _)
theorem k_row {W : World} {l : List S36} {A : Option Addr} {c : Nat} (hc : l.length ≤ c) (hC : k36.C W A l.length l) : k36.K W (rowNode l) [.int .i64 1, .string ⟨#[]⟩, .int .i64 0, .slice A l.length c] := k36_mk W (rowNode l) hc hC
theorem sym_calls (s : ByteArray) (w : World) : Calls Tryd.prog 76 #[.string s] w fun e w' => e = .returned (.agg #[.int .i64 2, .string s, .int .i64 0, .slice none 0 0]) ∧ Below w.heap.size w w' := by
 have hu36 := Tryd.underlying36
 go_enter Tryd.func76, Tryd.ntmps76
 go_wp2
 refine bodyPost_ret (results_cell_row rfl _ _ w.heap.size 36 #[.int .i64 2, .string s, .int .i64 0, .slice none 0 0] (0, 0) _ rfl (blk_new w _) Tryd.underlying36 rfl (by kernel_rfl)) rfl ?_
 exact ⟨rfl, below_alloc (Below.refl _ _) _⟩
theorem row_calls (A : Option Addr) (n c : Nat) (w : World) : Calls Tryd.prog 77 #[.slice A n c] w fun e w' => e = .returned (.agg #[.int .i64 1, .string ⟨#[]⟩, .int .i64 0, .slice A n c]) ∧ Below w.heap.size w w' := by
 have hu36 := Tryd.underlying36
 go_enter Tryd.func77, Tryd.ntmps77
 go_wp2
 refine bodyPost_ret (results_cell_row rfl _ _ w.heap.size 36 #[.int .i64 1, .string ⟨#[]⟩, .int .i64 0, .slice A n c] (0, 0) _ rfl (blk_new w _) Tryd.underlying36 rfl (by kernel_rfl)) rfl ?_
 exact ⟨rfl, below_alloc (Below.refl _ _) _⟩
def awTree : List S36 := [sxNode ⟨#[120]⟩, ⟨5, ⟨#[]⟩, 0, [rowNode [sxNode ⟨#[97]⟩], rowNode [sxNode ⟨#[98]⟩]]⟩]
end awc
section cbk
theorem C_blk {α : Type} {d : Kd α} {W : World} {g t : Nat} {cs : List Value} {xs : List α} (hb : W.heap[g]? = some (.cells cs.toArray t (0, 0))) (hK : Reps (d.K W) d.sz xs cs) (hl : xs.length ≤ 9223372036854775807) : d.C W (some ⟨g, 0, none⟩) xs.length xs := by
 refine ⟨rfl, hl, fun _ => ⟨_, rfl, fun j p hj => ?_⟩⟩
 have h1 := hK.2 j p hj
 refine ⟨_, d.K_len h1, h1, fun i u hu => ?_⟩
 have hlt : i < d.sz := by have := (List.getElem?_eq_some_iff.1 hu).1; rw [List.length_take] at this; omega
 rw [List.getElem?_take_of_lt hlt, List.getElem?_drop] at hu
 have := (blk_cell hb (j * d.sz + i)).trans (by simpa using hu)
 have e : (⟨g, 0, none⟩ : Addr).add (j * d.sz + i) = ⟨g, j * d.sz + i, none⟩ := by unfold Addr.add; split <;> simp_all
 rw [e]; exact this
end cbk
def vinculumlaw11_awake.f (k : Nat) : Option Bool := (selection_Between.f k 1 ⟨#[]⟩ 0 awTree [1, 0, 0] [1, 1, 1]).bind fun r => some (decide (r.2.2.2 = 0) && decide (r.1.length = 0) && decide (r.2.1 = 1) && decide (r.2.2.1 = 2))
set_option maxHeartbeats 4000000 in

theorem vinculumlaw11_awake.calls (k : Nat)  (r : Bool) (w : World) (h : vinculumlaw11_awake.f k  = some r) :
  Calls Tryd.prog 45 #[] w fun e w' => e = .returned (.bool r) ∧ Below w.heap.size w w' := by
 have hu36 := Tryd.underlying36
 have hu54 := Tryd.underlying54
 obtain ⟨⟨q1, q2, q3, q4⟩, hq, h⟩ := Option.bind_eq_some_iff.mp h
 have HQ := Aside0.mk hq
 have HH := Aside0.mk h
 clear hq h
 go_enter Tryd.func45, Tryd.ntmps45
 go_wp2_with fail
 refine (sym_calls _ _).mono ?_
 rintro e w1 ⟨rfl, hb1⟩
 have HB1 := Aside0.mk hb1
 clear hb1
 go_wp2_with fail
 refine (sym_calls _ _).mono ?_
 rintro e w2 ⟨rfl, hb⟩
 have HB2 := Aside0.mk (below_step HB1.out hb)
 clear hb HB1
 go_wp2_with fail
 have h1 := blk_new w2 (.cells #[.int .i64 2, .string ⟨#[97]⟩, .int .i64 0, .slice none 0 0] 36)
 refine (row_calls _ _ _ _).mono ?_
 rintro e w3 ⟨rfl, hb⟩
 have C1 := Aside0.mk (Kd.C_below (C_blk (d := k36) (cs := [.int .i64 2, .string ⟨#[97]⟩, .int .i64 0, .slice none 0 0]) h1 (Reps.c4 (k_leaf _ ⟨#[97]⟩) (Reps.none _ _)) (by decide)) hb)
 have HB3 := Aside0.mk (below_step (below_alloc HB2.out _) hb)
 clear hb HB2 h1
 go_wp2_with fail
 refine (sym_calls _ _).mono ?_
 rintro e w4 ⟨rfl, hb⟩
 have C2 := Aside0.mk (Kd.C_below C1.out hb)
 have HB4 := Aside0.mk (below_step HB3.out hb)
 clear hb HB3 C1
 go_wp2_with fail
 have h1 := blk_new w4 (.cells #[.int .i64 2, .string ⟨#[98]⟩, .int .i64 0, .slice none 0 0] 36)
 refine (row_calls _ _ _ _).mono ?_
 rintro e w5 ⟨rfl, hb⟩
 have C3 := Aside0.mk (Kd.C_below (C_blk (d := k36) (cs := [.int .i64 2, .string ⟨#[98]⟩, .int .i64 0, .slice none 0 0]) h1 (Reps.c4 (k_leaf _ ⟨#[98]⟩) (Reps.none _ _)) (by decide)) hb)
 have C4 := Aside0.mk (Kd.C_below (Kd.C_alloc C2.out _) hb)
 have HB5 := Aside0.mk (below_step (below_alloc HB4.out _) hb)
 clear hb HB4 C2 h1
 go_wp2_with fail
 have h3 := blk_new w5 (.cells #[.int .i64 1, .string ⟨#[]⟩, .int .i64 0, .slice (some ⟨w2.heap.size, 0, none⟩) 1 1, .int .i64 1, .string ⟨#[]⟩, .int .i64 0, .slice (some ⟨w4.heap.size, 0, none⟩) 1 1] 36)
 have C5 := C_blk (d := k36) (cs := [.int .i64 1, .string ⟨#[]⟩, .int .i64 0, .slice (some ⟨w2.heap.size, 0, none⟩) 1 1, .int .i64 1, .string ⟨#[]⟩, .int .i64 0, .slice (some ⟨w4.heap.size, 0, none⟩) 1 1]) h3 (Reps.c4 (k_row (l := [sxNode ⟨#[97]⟩]) (c := 1) (Nat.le_refl _) (Kd.C_alloc C4.out _)) (Reps.c4 (k_row (l := [sxNode ⟨#[98]⟩]) (c := 1) (Nat.le_refl _) (Kd.C_alloc C3.out _)) (Reps.none _ _))) (by decide)
 have h4 := blk_new (w5.alloc (.cells #[.int .i64 1, .string ⟨#[]⟩, .int .i64 0, .slice (some ⟨w2.heap.size, 0, none⟩) 1 1, .int .i64 1, .string ⟨#[]⟩, .int .i64 0, .slice (some ⟨w4.heap.size, 0, none⟩) 1 1] 36)) (.cells #[.int .i64 2, .string ⟨#[120]⟩, .int .i64 0, .slice none 0 0, .int .i64 5, .string ⟨#[]⟩, .int .i64 0, .slice (some ⟨w5.heap.size, 0, none⟩) 2 2] 36)
 rw [World.size_alloc] at h4
 have C6 := C_blk (d := k36) (xs := awTree) (cs := [.int .i64 2, .string ⟨#[120]⟩, .int .i64 0, .slice none 0 0, .int .i64 5, .string ⟨#[]⟩, .int .i64 0, .slice (some ⟨w5.heap.size, 0, none⟩) 2 2]) h4 (Reps.c4 (k_leaf _ ⟨#[120]⟩) (Reps.c4 (k36_mk _ (⟨5, ⟨#[]⟩, 0, [rowNode [sxNode ⟨#[97]⟩], rowNode [sxNode ⟨#[98]⟩]]⟩ : S36) (c3 := 2) (Nat.le_refl _) (Kd.C_alloc C5 _)) (Reps.none _ _))) (by decide)
 clear h3 h4 C5 C3 C4
 refine (row_calls _ _ _ _).mono ?_
 rintro e w6 ⟨rfl, hb⟩
 have C7 := Aside0.mk (Kd.C_below C6 hb)
 have HB6 := Aside0.mk (below_step (below_alloc (below_alloc HB5.out _) _) hb)
 clear hb HB5 C6
 go_wp2_with fail
 have e1 := blk_new (w6.alloc (.cells #[.int .i64 1, .string ⟨#[]⟩, .int .i64 0, .slice (some ⟨w5.heap.size + 1, 0, none⟩) 2 2] 36)) (.cells #[.int .i64 1, .int .i64 0, .int .i64 0] 3)
 have e2 := blk_new ((w6.alloc (.cells #[.int .i64 1, .string ⟨#[]⟩, .int .i64 0, .slice (some ⟨w5.heap.size + 1, 0, none⟩) 2 2] 36)).alloc (.cells #[.int .i64 1, .int .i64 0, .int .i64 0] 3)) (.cells #[.int .i64 1, .int .i64 1, .int .i64 1] 3)
 rw [World.size_alloc] at e1
 rw [World.size_alloc, World.size_alloc] at e2
 have D1 := C_blk (d := Kd.int .i64) (xs := [1, 0, 0]) (cs := [.int .i64 1, .int .i64 0, .int .i64 0]) (blk_alloc e1 (.cells #[.int .i64 1, .int .i64 1, .int .i64 1] 3)) (Reps.one rfl (Reps.one rfl (Reps.one rfl (Reps.none _ _)))) (by decide)
 have D2 := C_blk (d := Kd.int .i64) (xs := [1, 1, 1]) (cs := [.int .i64 1, .int .i64 1, .int .i64 1]) e2 (Reps.one rfl (Reps.one rfl (Reps.one rfl (Reps.none _ _)))) (by decide)
 refine (selection_Between.calls k 1 ⟨#[]⟩ 0 _ _ awTree _ _ [1, 0, 0] _ _ [1, 1, 1] q1 q2 q3 q4 _ (Kd.C_alloc (Kd.C_alloc (Kd.C_alloc C7.out _) _) _) (Nat.le_refl _) D1 (Nat.le_refl _) D2 (Nat.le_refl _) HQ.out).mono ?_
 clear e1 e2 D1 D2
 rintro e w7 ⟨v0, rfl, hR, hb⟩
 have HB7 := Aside0.mk (below_step (below_alloc (below_alloc (below_alloc HB6.out _) _) _) hb)
 obtain ⟨A7, c7, rfl⟩ := Kd.R_slice hR
 clear hb HB6 hR
 have h := HH.out
 simp only [Option.some.injEq] at h
 have fin : ∀ (b1 b2 b3 b4 : Bool), (q4 == 0) = b1 → (((q1.length : Nat) : Int) == 0) = b2 → (q2 == 1) = b3 → (q3 == 2) = b4 → (decide (q4 = 0) && decide (q1.length = 0) && decide (q2 = 1) && decide (q3 = 2)) = (b1 && b2 && b3 && b4) := by
  rintro _ _ _ _ rfl rfl rfl rfl
  rw [Bool.eq_iff_iff]
  simp
 obtain ⟨b1, hb1⟩ : ∃ b, (q4 == 0) = b := ⟨_, rfl⟩
 obtain ⟨b2, hb2⟩ : ∃ b, (((q1.length : Nat) : Int) == 0) = b := ⟨_, rfl⟩
 obtain ⟨b3, hb3⟩ : ∃ b, (q2 == 1) = b := ⟨_, rfl⟩
 obtain ⟨b4, hb4⟩ : ∃ b, (q3 == 2) = b := ⟨_, rfl⟩
 rw [fin b1 b2 b3 b4 hb1 hb2 hb3 hb4] at h
 clear fin HH HQ
 cases b1
 ·
  subst h
  go_wp2
  go_ret
  exact ⟨rfl, below_alloc HB7.out _⟩
 cases b2
 ·
  subst h
  go_wp2
  go_ret
  exact ⟨rfl, below_alloc HB7.out _⟩
 cases b3
 ·
  subst h
  go_wp2
  go_ret
  exact ⟨rfl, below_alloc HB7.out _⟩
 cases b4
 ·
  subst h
  go_wp2
  go_ret
  exact ⟨rfl, below_alloc HB7.out _⟩
 ·
  subst h
  go_wp2
  go_ret
  exact ⟨rfl, below_alloc HB7.out _⟩
end Go.Proofs.YtagkhoeidjlahaaDoor.G
namespace Go.Proofs.YtagkhoeidjlahaaDoor.G.Pure
open Go.Proofs.YtagkhoeidjlahaaDoorW.PrintWords Go.RowKit
set_option linter.unusedVariables false
set_option linter.unusedSimpArgs false
theorem eq_l (a b : List Int) (hl : a.length = b.length) (ha : a.length ≤ M) : ∀ (m i : Nat), a.length - i = m → Ev (fun k => slices_Equal_int_int.l0 k a b a.length i) (decide (a.drop i = b.drop i)) := by
 intro m
 unfold M at ha
 induction m with
 | zero =>
  intro i hi
  refine Ev.step (fun k => by rw [slices_Equal_int_int.l0]) ?_
  refine ev_if (fun h => by omega) fun _ => ev_now ?_
  rw [List.drop_eq_nil_of_le (show a.length ≤ i by omega), List.drop_eq_nil_of_le (show b.length ≤ i by omega)]
  simp
 | succ m ih =>
  intro i hi
  have ha2 : i < a.length := by omega
  have hb2 : i < b.length := by omega
  refine Ev.step (fun k => by rw [slices_Equal_int_int.l0]) ?_
  refine ev_if (fun _ => ?_) fun h => by omega
  refine ev_if (fun _ => ?_) fun h => by omega
  refine ev_if (fun _ => ?_) fun h => by omega
  refine ev_if (fun _ => ?_) fun h => by omega
  rw [rd_at a i ha2, rd_at b i hb2, List.drop_eq_getElem_cons ha2, List.drop_eq_getElem_cons hb2]
  refine ev_if (fun h => ?_) fun h => ev_now ?_
  ·
   rw [h, wr (n := (i : Int) + 1) (by omega)]
   have := ih (i + 1) (by omega)
   simp only [List.cons.injEq, true_and]
   exact_mod_cast this
  ·
   exact (decide_eq_false fun e => h (List.cons.inj e).1).symm
theorem eq_ev (a b : List Int) (ha : a.length ≤ M) : Ev (fun k => slices_Equal_int_int.f k a b) (decide (a = b)) := by
 unfold slices_Equal_int_int.f
 refine ev_if (fun h => ?_) fun h => ev_now ?_
 ·
  have := eq_l a b (by omega) ha a.length 0 rfl
  simpa using this
 ·
  exact (decide_eq_false fun e => h (by rw [e])).symm
theorem clone_ev (l : List Int) (h : l.length ≤ 1000000) : slices_Clone_int_int.f l = some l := by
 unfold slices_Clone_int_int.f; rw [if_pos (by omega)]
def endsB (a : List Int) (k : Nat) : Int × Int := if a.length = k + 1 then (rd a k, rd a k) else (rd a k, wrap64 (rd a k + 1))
theorem cover_eq (a : List Int) (k : Nat) (h : k < a.length) : selection_cover.f (a.drop k) = some (endsB a k) := by
 unfold selection_cover.f endsB
 have hr : rd (a.drop k) 0 = rd a k := by
  have e0 := rd_at (a.drop k) 0 (by rw [List.length_drop]; omega)
  have e1 := rd_at a k h
  rw [e1]
  refine Eq.trans e0 ?_
  simp
 rw [hr, List.length_drop]
 by_cases h1 : a.length = k + 1
 ·
  rw [if_pos (by omega), if_pos (by omega), if_pos h1]
 ·
  rw [if_neg (by omega), if_pos (by omega), if_neg h1]
def finB (a b : List Int) (k : Nat) : List Int × Int × Int × Int := (a.take k, mn (endsB a k).1 (endsB b k).1, mx (endsB a k).2 (endsB b k).2, 0)
def btw : Nat → List Int → List Int → Nat → List Int × Int × Int × Int
 | 0, a, b, k => finB a b k
 | f + 1, a, b, k => if k + 2 < a.length ∧ k + 2 < b.length ∧ rd a k = rd b k ∧ rd a (k + 1 : Nat) = rd b (k + 1 : Nat) then btw f a b (k + 2) else finB a b k
theorem two_at (a : List Int) (k : Nat) (h : k + 2 ≤ a.length) : (a.take (k + 2)).drop k = [rd a k, rd a (k + 1 : Nat)] := by
 rw [rd_at a k (by omega), rd_at a (k + 1) (by omega)]
 rw [List.drop_take, show k + 2 - k = 2 by omega, List.drop_eq_getElem_cons (show k < a.length by omega), List.take_succ_cons, List.drop_eq_getElem_cons (show k + 1 < a.length by omega), List.take_succ_cons, List.take_zero]
theorem pBet_l (a b : List Int) (ha : a.length ≤ 1000000) (hb : b.length ≤ 1000000) : ∀ (f k : Nat), a.length ≤ k + f → k < a.length → k < b.length → Ev (fun n => selection_Between.l0 n a b k) (btw f a b k) := by
 intro f
 have fin : ∀ k : Nat, k < a.length → k < b.length → Ev (fun n => selection_Between.j1 n a b k) (finB a b k) := by
  intro k h1 h2
  refine Ev.step (fun n => by rw [selection_Between.j1]) ?_
  refine ev_if (fun _ => ?_) fun h => by omega
  refine ev_if (fun _ => ?_) fun h => by omega
  rw [Int.toNat_natCast, cover_eq a k h1, cover_eq b k h2]
  refine ev_bind (Ev.now _) ?_
  refine ev_if (fun _ => ?_) fun h => by omega
  refine ev_bind (Ev.now _) ?_
  refine ev_bind (ev_some (show selection_join.f _ _ _ _ = some _ from rfl)) ?_
  rw [clone_ev _ (by rw [List.length_take]; omega)]
  exact ev_bind (Ev.now _) (Ev.now _)
 induction f with
 | zero => intro k h1 h2 h3; omega
 | succ f ih =>
  intro k h1 h2 h3
  refine Ev.step (fun n => by rw [selection_Between.l0]) ?_
  rw [btw, wr (n := (k : Int) + 2) (by omega)]
  refine ev_if (fun h4 => ?_) fun h4 => ?_
  ·
   refine ev_if (fun h5 => ?_) fun h5 => ?_
   ·
    refine ev_if (fun _ => ?_) fun h => by omega
    refine ev_if (fun _ => ?_) fun h => by omega
    refine ev_if (fun _ => ?_) fun h => by omega
    refine ev_if (fun _ => ?_) fun h => by omega
    rw [show ((k : Int) + 2).toNat = k + 2 by omega, Int.toNat_natCast, two_at a k (by omega), two_at b k (by omega)]
    refine ev_bind (eq_ev _ _ (by simp [M])) ?_
    by_cases h6 : rd a k = rd b k ∧ rd a (k + 1 : Nat) = rd b (k + 1 : Nat)
    ·
     rw [if_pos ⟨by omega, by omega, h6.1, h6.2⟩, decide_eq_true (by rw [h6.1, h6.2])]
     refine ev_if (fun _ => ?_) fun h => absurd rfl h
     have := ih (k + 2) (by omega) (by omega) (by omega)
     exact_mod_cast this
    ·
     rw [if_neg (fun h => h6 ⟨h.2.2.1, h.2.2.2⟩), decide_eq_false (fun h => h6 (by simpa using h))]
     refine ev_if (fun h => by cases h) fun _ => fin k h2 h3
   ·
    rw [if_neg (by omega)]; exact fin k h2 h3
  ·
   rw [if_neg (by omega)]; exact fin k h2 h3
def betB (x : S36) (a b : List Int) : List Int × Int × Int × Int :=
 if validB x = true then (if (idxB x a).2 = 0 ∧ (idxB x b).2 = 0 then btw a.length a b 0 else ([], 0, 0, 2)) else ([], 0, 0, 1)
theorem idxF_mem (pos : List Int) : ∀ (l : List (List Int)) (i : Int), (idxF pos l i).2 = 0 → pos ∈ l
 | [], i, h => by simp [idxF] at h
 | q :: l, i, h => by
  rw [idxF] at h
  by_cases hc : cmpL q pos = 0
  ·
   rw [cmpL_zero hc]; simp
  ·
   rw [if_neg hc] at h; exact List.mem_cons_of_mem _ (idxF_mem pos l (i + 1) h)
theorem pos_ne (x : S36) (hv : validB x = true) (a : List Int) (h : (idxB x a).2 = 0) : 0 < a.length := by
 unfold idxB at h
 rw [if_pos hv] at h
 obtain ⟨j, r, e, _⟩ := kids_mem [] 0 x.f3 a (idxF_mem a _ _ h)
 rw [e]; simp
theorem pBet_ev (x : S36) (hx : OkNode x) (hc : cnt x ≤ 100000) (a b : List Int) (ha : a.length ≤ 1000000) (hb : b.length ≤ 1000000) : Ev (fun k => selection_Between.f k x.f0 x.f1 x.f2 x.f3 a b) (betB x a b) := by
 unfold selection_Between.f betB
 refine ev_bind (nValid_ev x hx) ?_
 refine ev_if (fun hv => ?_) fun hv => ev_now (by rw [if_neg hv])
 rw [if_pos hv]
 refine ev_bind (pValid_ev x hx hc a) ?_
 refine ev_if (fun h1 => ?_) fun h1 => ev_now ?_
 ·
  have h1' : (idxB x a).2 = 0 := by simpa using h1
  refine ev_bind (pValid_ev x hx hc b) ?_
  refine ev_if (fun h2 => ?_) fun h2 => ev_now ?_
  ·
   have h2' : (idxB x b).2 = 0 := by simpa using h2
   rw [if_pos ⟨h1', h2'⟩]
   exact pBet_l a b ha hb a.length 0 (by omega) (pos_ne x hv a h1') (pos_ne x hv b h2')
  ·
   rw [if_neg (fun h => h2 (by simp [h.2]))]
 ·
  rw [if_neg (fun h => h1 (by simp [h.1]))]
def nY : S36 := ⟨1, ⟨#[]⟩, 0, awTree⟩
theorem nY_ok : OkNode nY := by
 have leaf : ∀ s : ByteArray, s.size ≤ 100 → OkNode (sxNode s) := fun s h => ok_leaf 2 s (by omega) h
 have row : ∀ s : ByteArray, s.size ≤ 100 → OkNode (rowNode [sxNode s]) := fun s h => by
  refine OkNode.mk _ (okI_small 1 (by omega)) (by unfold OkS; simp [rowNode]; decide) (okI_small 0 (by omega)) (by simp [rowNode]) (fun y hy => ?_)
  simp only [rowNode, List.mem_singleton] at hy
  subst hy; exact leaf s h
 refine OkNode.mk _ (okI_small 1 (by omega)) (by unfold OkS; decide) (okI_small 0 (by omega)) (by decide) (fun y h => ?_)
 simp only [nY, awTree, List.mem_cons, List.mem_nil_iff, or_false] at h
 rcases h with rfl | rfl
 ·
  exact leaf _ (by decide)
 ·
  refine OkNode.mk _ (okI_small 5 (by omega)) (by unfold OkS; decide) (okI_small 0 (by omega)) (by decide) (fun z hz => ?_)
  simp only [List.mem_cons, List.mem_nil_iff, or_false] at hz
  rcases hz with rfl | rfl
  ·
   exact row _ (by decide)
  ·
   exact row _ (by decide)
theorem nY_bet : betB nY [1, 0, 0] [1, 1, 1] = ([], 1, 2, 0) := by decide +kernel
theorem awake11_ev : Ev (fun k => vinculumlaw11_awake.f k) true := by
 unfold vinculumlaw11_awake.f
 have := pBet_ev nY nY_ok (by decide) [1, 0, 0] [1, 1, 1] (by decide) (by decide)
 rw [nY_bet] at this
 exact Ev.bind (f := fun _ r => some (decide (r.2.2.2 = 0) && decide (r.1.length = 0) && decide (r.2.1 = 1) && decide (r.2.2.1 = 2))) this (Ev.now _)
end Go.Proofs.YtagkhoeidjlahaaDoor.G.Pure
