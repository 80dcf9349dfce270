-- Written by pack2.py, a program of this session: this session's texts and those that the kit's printer wrote for this claim, pruned to what the claims use.
import Derived.Test.YtagkhoeidjlahaaDoorCSi2
import Derived.Test.YtagkhoeidjlahaaDoorCSi23
import Derived.Test.YtagkhoeidjlahaaDoorCSi9
import Derived.Test.YtagkhoeidjlahaaDoorCSi21
import Derived.Test.YtagkhoeidjlahaaDoorCSi22
import Derived.Test.YtagkhoeidjlahaaDoorCSi17
import Derived.Test.YtagkhoeidjlahaaDoorCSi20
namespace Go.Proofs.YtagkhoeidjlahaaDoor.G
open Go.RowKit Go.Proofs.YtagkhoeidjlahaaDoorW.PrintWords Go.Proofs.YtagkhoeidjlahaaDoorW.PrintLast Go.Proofs.YtagkhoeidjlahaaDoorW.PrintMore
attribute [local go_sem] max2_int min2_int max_two min_two max_three min_three max_four min_four
set_option linter.unusedVariables false
set_option linter.unusedSimpArgs false
def position_Valid.f (k : Nat) (a0_0 : Int) (a0_1 : ByteArray) (a0_2 : Int) (l0_3 : List (S36)) (l1 : List Int) : Option (Bool) := (position_Index.f k a0_0 a0_1 a0_2 l0_3 l1).bind fun bt612 => (some (bt612.2 == 0))
set_option maxHeartbeats 8000000 in
set_option maxRecDepth 100000 in
theorem position_Valid.calls (k : Nat) (a0_0 : Int) (a0_1 : ByteArray) (a0_2 : Int) (A0_3 : Option Addr) (c0_3 : Nat) (l0_3 : List (S36)) (A1 : Option Addr) (c1 : Nat) (l1 : List Int) (r : Bool) (w : World) (hr0_3 : Kd.C k36 w A0_3 l0_3.length l0_3) (hc0_3 : l0_3.length ≤ c0_3) (hr1 : Kd.C (Kd.int .i64) w A1 l1.length l1) (hc1 : l1.length ≤ c1) (h : position_Valid.f k a0_0 a0_1 a0_2 l0_3 l1 = some r) :
  Calls Tryd.prog 41 #[.agg #[.int .i64 a0_0, .string a0_1, .int .i64 a0_2, .slice A0_3 l0_3.length c0_3], .slice A1 l1.length c1] w fun e w' => e = .returned (.bool r) ∧ Below w.heap.size w w' := by
 have hu36 := Tryd.underlying36
 have HR0_3 := Aside0.mk hr0_3
 have HC0_3 := Aside0.mk hc0_3
 clear hr0_3 hc0_3
 have HR1 := Aside0.mk hr1
 have HC1 := Aside0.mk hc1
 clear hr1 hc1
 have HB := Aside0.mk (Below.refl w.heap.size w)
 have H : ((position_Index.f k a0_0 a0_1 a0_2 l0_3 l1).bind fun bt612 => (some (bt612.2 == 0))) = some r := h
 clear h
 replace H := Option.bind_eq_some_iff.mp H
 obtain ⟨⟨t612, t613⟩, A30, H⟩ := H
 replace H : (some (t613 == 0)) = some r := H
 have A3 := Aside0.mk A30
 clear A30
 obtain rfl := Option.some.inj H
 go_enter Tryd.func41, Tryd.ntmps41
 go_wp2_with (first | ((with_reducible refine gate_dst (N := 2) rfl ?_); refine box_event ?hg (N := 2) ?hd (cs := #[.int .i64 a0_0, .string a0_1, .int .i64 a0_2, .slice A0_3 l0_3.length c0_3]) (t := 36) ?hr ?_; (case hd => rfl); (case hg => rfl); (case hr => first | (go_simp; done) | (go_simp; rfl)); intro gb611 hg w4 hbox hb; have n0_ := Aside0.mk (below_step (by repeat (first | (with_reducible first | exact HB.out | apply below_alloc | apply pw_below_drewN | apply below_drew1) | exact HB.out)) hb); have n1_ := Aside0.mk (hbox); have n2_ := Aside0.mk ((by rw [hg]; exact (below_size (by repeat (first | (with_reducible first | exact HB.out | apply below_alloc | apply pw_below_drewN | apply below_drew1) | exact HB.out))) : w.heap.size ≤ gb611)); have n3_ := Aside0.mk ((by rw [hg]; exact (below_size (by repeat (first | (with_reducible first | exact HB.out | apply below_alloc | apply pw_below_drewN | apply below_drew1) | exact HB.out))) : w.heap.size ≤ gb611)); clear HB; have HB := n0_; have BK611 := n1_; have GW611 := n2_; have GE611 := n3_; clear n0_ n1_ n2_ n3_; clear hb hbox hg; have hcz5_0 : w4.cell? ⟨gb611, 0, none⟩ = some (.int .i64 a0_0) := (blk_cell BK611.out 0).trans rfl; have hcz5_1 : w4.cell? ⟨gb611, 1, none⟩ = some (.string a0_1) := (blk_cell BK611.out 1).trans rfl; have hcz5_2 : w4.cell? ⟨gb611, 2, none⟩ = some (.int .i64 a0_2) := (blk_cell BK611.out 2).trans rfl; have hcz5_3 : w4.cell? ⟨gb611, 3, none⟩ = some (.slice A0_3 l0_3.length c0_3) := (blk_cell BK611.out 3).trans rfl; have hfz5_0 := blk_frozen BK611.out 0; have hfz5_1 := blk_frozen BK611.out 1; have hfz5_2 := blk_frozen BK611.out 2; have hfz5_3 := blk_frozen BK611.out 3) | ((with_reducible refine gate_callee (f := 27) rfl ?_); refine goesL_ (some 10) rfl rfl Tryd.func27 (by kernel_rfl) rfl #[.agg #[.int .i64 a0_0, .string a0_1, .int .i64 a0_2, .slice A0_3 l0_3.length c0_3], .slice A1 l1.length c1] rfl (by (try simp only [List.map_toArray, List.map_cons, List.map_nil]); first | done | rfl | (simp only [List.length_drop, List.length_take]; rfl)) ?_; (with_reducible refine (position_Index.calls k a0_0 a0_1 a0_2 _ _ l0_3 _ _ l1 t612 t613 _ ?side1 ?side2 ?side3 ?side4 A3.out).mono ?_); (case side1 => repeat (first | exact (Kd.C_below HR0_3.out HB.out) | (with_reducible refine Kd.C_alloc ?_ _) | (with_reducible refine Kd.C_drewN ?_ _) | (with_reducible refine Kd.C_drew ?_))); (case side2 => exact HC0_3.out); (case side3 => repeat (first | exact (Kd.C_below HR1.out HB.out) | (with_reducible refine Kd.C_alloc ?_ _) | (with_reducible refine Kd.C_drewN ?_ _) | (with_reducible refine Kd.C_drew ?_))); (case side4 => exact HC1.out); rintro e w6 ⟨rfl, hb⟩; refine ⟨_, rfl, ?_⟩; have n0_ := Aside0.mk (blk_below (g := gb611) (o := .cells #[.int .i64 a0_0, .string a0_1, .int .i64 a0_2, .slice A0_3 l0_3.length c0_3] 36 (0, 0)) (by (with_reducible repeat (first | refine blk_drewN ?_ _ | refine blk_drew ?_ | refine blk_alloc ?_ _)); exact BK611.out) hb); have n1_ := Aside0.mk (below_step (by repeat (first | (with_reducible first | exact HB.out | apply below_alloc | apply pw_below_drewN | apply below_drew1 | refine below_set ?_ GE611.out) | exact HB.out)) hb); clear BK611; clear HB; have BK611 := n0_; have HB := n1_; clear n0_ n1_; (try clear hb); (try clear hb2); (try clear hk); (try clear hi)))
 go_ret
 exact ⟨by first | rfl | (simp [errW_none, errW_some] <;> rfl) | (simp [*, errW_none, errW_some] <;> rfl), by repeat (first | (with_reducible first | exact HB.out | apply below_alloc | apply pw_below_drewN | apply below_drew1 | refine below_set ?_ GE611.out) | exact HB.out)⟩
end Go.Proofs.YtagkhoeidjlahaaDoor.G
namespace Go.Proofs.YtagkhoeidjlahaaDoor.G.Pure
open Go.Proofs.YtagkhoeidjlahaaDoorW.PrintWords Go.RowKit
set_option linter.unusedVariables false
set_option linter.unusedSimpArgs false
def cmpL : List Int → List Int → Int
 | [], [] => 0
 | [], _ :: _ => -1
 | _ :: _, [] => 1
 | a :: al, b :: bl => if a < b then -1 else if b < a then 1 else cmpL al bl
theorem cmpL_zero : ∀ {a b}, cmpL a b = 0 → a = b
 | [], [], _ => rfl
 | [], _ :: _, h => by simp [cmpL] at h
 | _ :: _, [], h => by simp [cmpL] at h
 | a :: al, b :: bl, h => by
  rw [cmpL] at h
  split at h
  ·
   simp at h
  ·
   split at h
   ·
    simp at h
   ·
    rw [cmpL_zero h, show a = b by omega]
theorem cmpL_neg : ∀ a b, cmpL b a = - cmpL a b
 | [], [] => rfl
 | [], _ :: _ => rfl
 | _ :: _, [] => rfl
 | a :: al, b :: bl => by
  rw [cmpL, cmpL]
  rcases Int.lt_trichotomy a b with h | h | h
  ·
   rw [if_neg (by omega), if_pos h, if_pos h]; rfl
  ·
   rw [if_neg (by omega), if_neg (by omega), if_neg (by omega), if_neg (by omega)]; exact cmpL_neg al bl
  ·
   rw [if_pos h, if_neg (by omega), if_pos h]
theorem cmpL_trans : ∀ a b c, cmpL a b < 0 → cmpL b c < 0 → cmpL a c < 0
 | [], [], _, h, _ => by simp [cmpL] at h
 | [], _ :: _, [], _, h => by simp [cmpL] at h
 | [], _ :: _, _ :: _, _, _ => by simp [cmpL]
 | _ :: _, [], _, h, _ => by simp [cmpL] at h
 | _ :: _, _ :: _, [], _, h => by simp [cmpL] at h
 | a :: al, b :: bl, c :: cl, h, k => by
  rw [cmpL] at h k ⊢
  rcases Int.lt_trichotomy a b with h1 | h1 | h1
  ·
   rcases Int.lt_trichotomy b c with h2 | h2 | h2
   ·
    rw [if_pos (by omega)]; decide
   ·
    rw [if_pos (by omega)]; decide
   ·
    rw [if_neg (by omega), if_pos h2] at k; simp at k
  ·
   rw [if_neg (by omega), if_neg (by omega)] at h
   rcases Int.lt_trichotomy b c with h2 | h2 | h2
   ·
    rw [if_pos (by omega)]; decide
   ·
    rw [if_neg (by omega), if_neg (by omega)] at k ⊢; exact cmpL_trans al bl cl h k
   ·
    rw [if_neg (by omega), if_pos h2] at k; simp at k
  ·
   rw [if_neg (by omega), if_pos h1] at h; simp at h
theorem cmpL_app : ∀ p a b, cmpL (p ++ a) (p ++ b) = cmpL a b
 | [], a, b => rfl
 | x :: p, a, b => by rw [List.cons_append, List.cons_append, cmpL, if_neg (by omega), if_neg (by omega)]; exact cmpL_app p a b
theorem rd_at (l : List Int) (i : Nat) (h : i < l.length) : rd l i = l[i] := by simp [rd, h]
theorem cmpI_eq (a b : Int) : cmp_Compare_int.f a b = some (if a < b then -1 else if b < a then 1 else 0) := by
 unfold cmp_Compare_int.f cmp_isNaN_int.f
 simp
 split
 ·
  rfl
 ·
  split <;> rfl
theorem pCmp_l (a b : List Int) (ha : a.length ≤ M) : ∀ (m i : Nat), a.length - i = m → i ≤ a.length → Ev (fun k => slices_Compare_int_int.l0 k a b a a.length i) (cmpL (a.drop i) (b.drop i)) := by
 intro m
 unfold M at ha
 induction m with
 | zero =>
  intro i hi hi2
  refine Ev.step (fun k => by rw [slices_Compare_int_int.l0]) ?_
  refine ev_if (fun h => by omega) fun _ => ?_
  rw [List.drop_eq_nil_of_le (by omega)]
  refine ev_if (fun h => ev_now ?_) fun h => ev_now ?_
  ·
   rw [List.drop_eq_getElem_cons (show i < b.length by omega), cmpL]
  ·
   rw [List.drop_eq_nil_of_le (by omega), cmpL]
 | succ m ih =>
  intro i hi hi2
  have hil : i < a.length := by omega
  refine Ev.step (fun k => by rw [slices_Compare_int_int.l0]) ?_
  refine ev_if (fun _ => ?_) fun h => by omega
  refine ev_if (fun _ => ?_) fun h => by omega
  refine ev_if (fun _ => ?_) fun h => by omega
  rw [List.drop_eq_getElem_cons hil]
  refine ev_if (fun h => ev_now ?_) fun h => ?_
  ·
   rw [List.drop_eq_nil_of_le (show b.length ≤ i by omega), cmpL]
  ·
   refine ev_if (fun _ => ?_) fun h => by omega
   rw [List.drop_eq_getElem_cons (show i < b.length by omega), cmpL, rd_at a i hil, rd_at b i (by omega), cmpI_eq]
   refine ev_bind (Ev.now _) ?_
   rcases Int.lt_trichotomy a[i] b[i] with h1 | h1 | h1
   ·
    rw [if_pos h1, if_pos h1]; exact ev_if (fun h => by simp at h) fun _ => Ev.now _
   ·
    rw [if_neg (by omega), if_neg (by omega), if_neg (by omega), if_neg (by omega)]
    refine ev_if (fun _ => ?_) fun h => absurd rfl h
    rw [wr (n := (i : Int) + 1) (by omega)]
    have := ih (i + 1) (by omega) (by omega)
    exact_mod_cast this
   ·
    rw [if_neg (by omega), if_pos h1, if_neg (by omega), if_pos h1]; exact ev_if (fun h => by simp at h) fun _ => Ev.now _
theorem pCmp_ev (a b : List Int) (ha : a.length ≤ M) : Ev (fun k => position_Compare.f k a b) (cmpL a b) := by
 unfold position_Compare.f slices_Compare_int_int.f
 have := pCmp_l a b ha a.length 0 rfl (by omega)
 exact ev_bind (by simpa using this) (Ev.now _)
mutual
theorem kids_mem : ∀ (p : List Int) (i : Int) (l : List S36) (q : List Int), q ∈ posKids p i l → ∃ j r, q = p ++ j :: r ∧ i ≤ j
 | p, i, [], q, h => by
  rw [posKids, List.mem_singleton] at h
  exact ⟨i, [], h, Int.le_refl _⟩
 | p, i, x :: l, q, h => by
  rw [posKids, List.mem_cons, List.mem_append] at h
  rcases h with h | h | h
  ·
   exact ⟨i, [], h, Int.le_refl _⟩
  ·
   obtain ⟨s, r, h2⟩ := item_mem p i x q h
   exact ⟨i, s :: r, h2, Int.le_refl _⟩
  ·
   obtain ⟨j, r, h2, h3⟩ := kids_mem p (i + 1) l q h
   exact ⟨j, r, h2, by omega⟩
theorem item_mem : ∀ (p : List Int) (i : Int) (x : S36) (q : List Int), q ∈ posItem p i x → ∃ s r, q = p ++ i :: s :: r
 | p, i, ⟨_, _, _, l⟩, q, h => by
  rw [posItem] at h
  obtain ⟨s, r, h2, _⟩ := slots_mem p i 0 l q h
  exact ⟨s, r, h2⟩
theorem slots_mem : ∀ (p : List Int) (i s : Int) (l : List S36) (q : List Int), q ∈ posSlots p i s l → ∃ t r, q = p ++ i :: t :: r ∧ s ≤ t
 | p, i, s, [], q, h => by simp [posSlots] at h
 | p, i, s, y :: l, q, h => by
  rw [posSlots, List.mem_append] at h
  rcases h with h | h
  ·
   obtain ⟨r, h2⟩ := slot_mem (p ++ [i, s]) y q h
   exact ⟨s, r, by rw [h2]; simp, Int.le_refl _⟩
  ·
   obtain ⟨t, r, h2, h3⟩ := slots_mem p i (s + 1) l q h
   exact ⟨t, r, h2, by omega⟩
theorem slot_mem : ∀ (p : List Int) (y : S36) (q : List Int), q ∈ posSlot p y → ∃ r, q = p ++ r
 | p, ⟨_, _, _, l⟩, q, h => by
  rw [posSlot] at h
  obtain ⟨j, r, h2, _⟩ := kids_mem p 0 l q h
  exact ⟨j :: r, h2⟩
end
def Srt (l : List (List Int)) : Prop := l.Pairwise fun a b => cmpL a b < 0
mutual
theorem kids_srt : ∀ (p : List Int) (i : Int) (l : List S36), Srt (posKids p i l)
 | p, i, [] => by rw [posKids]; exact List.pairwise_singleton _ _
 | p, i, x :: l => by
  rw [posKids]
  refine List.pairwise_cons.2 ⟨fun q h => ?_, List.pairwise_append.2 ⟨item_srt p i x, kids_srt p (i + 1) l, fun a ha b hb => ?_⟩⟩
  ·
   rcases List.mem_append.1 h with h | h
   ·
    obtain ⟨s, r, rfl⟩ := item_mem p i x q h
    rw [cmpL_app, cmpL, if_neg (by omega), if_neg (by omega)]; simp [cmpL]
   ·
    obtain ⟨j, r, rfl, h2⟩ := kids_mem p (i + 1) l q h
    rw [cmpL_app, cmpL, if_pos (by omega)]; decide
  ·
   obtain ⟨s, r, rfl⟩ := item_mem p i x a ha
   obtain ⟨j, r2, rfl, h2⟩ := kids_mem p (i + 1) l b hb
   rw [cmpL_app, cmpL, if_pos (by omega)]; decide
theorem item_srt : ∀ (p : List Int) (i : Int) (x : S36), Srt (posItem p i x)
 | p, i, ⟨_, _, _, l⟩ => by rw [posItem]; exact slots_srt p i 0 l
theorem slots_srt : ∀ (p : List Int) (i s : Int) (l : List S36), Srt (posSlots p i s l)
 | p, i, s, [] => by rw [posSlots]; exact List.Pairwise.nil
 | p, i, s, y :: l => by
  rw [posSlots]
  refine List.pairwise_append.2 ⟨slot_srt (p ++ [i, s]) y, slots_srt p i (s + 1) l, fun a ha b hb => ?_⟩
  obtain ⟨r, rfl⟩ := slot_mem (p ++ [i, s]) y a ha
  obtain ⟨t, r2, rfl, h2⟩ := slots_mem p i (s + 1) l b hb
  rw [List.append_assoc, cmpL_app]
  simp only [List.cons_append, List.nil_append]
  rw [cmpL, if_neg (by omega), if_neg (by omega), cmpL, if_pos (by omega)]; decide
theorem slot_srt : ∀ (p : List Int) (y : S36), Srt (posSlot p y)
 | p, ⟨_, _, _, l⟩ => by rw [posSlot]; exact kids_srt p 0 l
end
theorem srt_lt {l : List (List Int)} (h : Srt l) {i j : Nat} (hij : i < j) (hj : j < l.length) : cmpL (l[i]'(by omega)) l[j] < 0 := List.pairwise_iff_getElem.1 h i j (by omega) hj hij
end Go.Proofs.YtagkhoeidjlahaaDoor.G.Pure
namespace Go.Proofs.YtagkhoeidjlahaaDoor.G.Pure
open Go.Proofs.YtagkhoeidjlahaaDoorW.PrintWords Go.RowKit
set_option linter.unusedVariables false
set_option linter.unusedSimpArgs false
def xsOf (x : S36) : List (List Int) := posKids [] 0 x.f3
def allB (x : S36) : List (List Int) × Int := if validB x = true then (xsOf x, 0) else ([], 1)
theorem xs_le (x : S36) : (xsOf x).length ≤ 2 * cnt x := by
 have := posKids_len [] 0 x.f3
 have e := cnt_eq x
 unfold xsOf; omega
theorem pAll_ev (x : S36) (hx : OkNode x) : Ev (fun k => position_All.f k x.f0 x.f1 x.f2 x.f3) (allB x) := by
 unfold position_All.f allB
 refine Ev.bind (f := fun _ v => if v = true then some (posKids [] 0 x.f3, 0) else some ([], 1)) (nValid_ev x hx) ?_
 exact ev_if (fun h => ev_now (by rw [if_pos h]; rfl)) fun h => ev_now (by rw [if_neg h])
def idxF (pos : List Int) : List (List Int) → Int → Int × Int
 | [], _ => (0, 2)
 | q :: qs, i => if cmpL q pos = 0 then (i, 0) else idxF pos qs (i + 1)
def idxB (x : S36) (pos : List Int) : Int × Int := if validB x = true then idxF pos (xsOf x) 0 else (0, 1)
theorem rdL_at (l : List (List Int)) (i : Nat) (h : i < l.length) : rd_L5 l i = l[i] := by simp [rd_L5, h]
def Short (xs : List (List Int)) : Prop := ∀ q ∈ xs, q.length ≤ M
mutual
theorem kids_short : ∀ (p : List Int) (i : Int) (l : List S36) (q : List Int), q ∈ posKids p i l → q.length ≤ p.length + 1 + 2 * cntL l
 | p, i, [], q, h => by rw [posKids, List.mem_singleton] at h; subst h; simp
 | p, i, x :: l, q, h => by
  rw [posKids, List.mem_cons, List.mem_append] at h
  rw [cntL]
  rcases h with h | h | h
  ·
   subst h; simp
  ·
   have := item_short p i x q h; omega
  ·
   have := kids_short p (i + 1) l q h; omega
theorem item_short : ∀ (p : List Int) (i : Int) (x : S36) (q : List Int), q ∈ posItem p i x → q.length ≤ p.length + 1 + 2 * cnt x
 | p, i, ⟨_, _, _, l⟩, q, h => by
  rw [posItem] at h
  have := slots_short p i 0 l q h
  rw [cnt]; omega
theorem slots_short : ∀ (p : List Int) (i s : Int) (l : List S36) (q : List Int), q ∈ posSlots p i s l → q.length ≤ p.length + 1 + 2 * cntL l
 | p, i, s, [], q, h => by simp [posSlots] at h
 | p, i, s, y :: l, q, h => by
  rw [posSlots, List.mem_append] at h
  rw [cntL]
  rcases h with h | h
  ·
   have := slot_short (p ++ [i, s]) y q h
   simp only [List.length_append, List.length_cons, List.length_nil] at this
   omega
  ·
   have := slots_short p i (s + 1) l q h; omega
theorem slot_short : ∀ (p : List Int) (y : S36) (q : List Int), q ∈ posSlot p y → q.length + 1 ≤ p.length + 2 * cnt y
 | p, ⟨_, _, _, l⟩, q, h => by
  rw [posSlot] at h
  have := kids_short p 0 l q h
  rw [cnt]; omega
end
theorem xs_short (x : S36) (hc : cnt x ≤ 100000) : Short (xsOf x) := fun q h => by
 have := kids_short [] 0 x.f3 q h
 have e := cnt_eq x
 unfold M
 simp at this
 omega
def Low (xs : List (List Int)) (pos : List Int) (r : Nat) : Prop := r ≤ xs.length ∧ (∀ t (h : t < xs.length), t < r → cmpL xs[t] pos < 0) ∧ ∀ t (h : t < xs.length), r ≤ t → ¬ cmpL xs[t] pos < 0
theorem bsl_low (xs : List (List Int)) (pos : List Int) (hsr : Srt xs) (hs : Short xs) (hl : xs.length ≤ 1000000) : ∀ (n i j : Nat), j - i ≤ n → i ≤ j → j ≤ xs.length → (∀ t (h : t < xs.length), t < i → cmpL xs[t] pos < 0) → (∀ t (h : t < xs.length), j ≤ t → ¬ cmpL xs[t] pos < 0) →
  ∃ r, Low xs pos r ∧ ∃ K, ∀ k, K ≤ k → ∀ q, n + 1 ≤ q → bsl k xs pos q i j = some (r : Int) := by
 intro n
 induction n with
 | zero =>
  intro i j h1 h2 h3 h4 h5
  obtain rfl : i = j := by omega
  refine ⟨i, ⟨h3, h4, h5⟩, 0, fun k _ q hq => ?_⟩
  obtain ⟨q, rfl⟩ : ∃ q', q = q' + 1 := ⟨q - 1, by omega⟩
  rw [bsl, if_neg (by omega)]
 | succ n ih =>
  intro i j h1 h2 h3 h4 h5
  by_cases hij : i < j
  ·
   have hm : ((i : Int) + (j : Int)) / 2 = (((i + j) / 2 : Nat) : Int) := by omega
   have hml : (i + j) / 2 < xs.length := by omega
   obtain ⟨K0, hK0'⟩ := pCmp_ev xs[(i + j) / 2] pos (hs _ (List.getElem_mem hml))
   have hK0 : ∀ k, K0 ≤ k → position_Compare.f k xs[(i + j) / 2] pos = some (cmpL xs[(i + j) / 2] pos) := hK0'
   by_cases hc : cmpL xs[(i + j) / 2] pos < 0
   ·
    obtain ⟨r, hr, K, hK⟩ := ih ((i + j) / 2 + 1) j (by omega) (by omega) h3 (fun t ht hlt => by
     rcases Nat.lt_or_ge t ((i + j) / 2) with h | h
     ·
      exact cmpL_trans _ _ _ (srt_lt hsr h hml) hc
     ·
      obtain rfl : t = (i + j) / 2 := by omega
      exact hc) h5
    refine ⟨r, hr, max K0 K, fun k hk q hq => ?_⟩
    obtain ⟨q, rfl⟩ : ∃ q', q = q' + 1 := ⟨q - 1, by omega⟩
    rw [bsl, if_pos (by omega), hm, rdL_at _ _ hml, hK0 k (by omega)]
    simp only [Option.bind_some]
    rw [if_pos hc]
    have := hK k (by omega) q (by omega)
    exact_mod_cast this
   ·
    obtain ⟨r, hr, K, hK⟩ := ih i ((i + j) / 2) (by omega) (by omega) (by omega) h4 (fun t ht hlt hneg => by
     rcases Nat.eq_or_lt_of_le hlt with h | h
     ·
      subst h; exact hc hneg
     ·
      exact hc (cmpL_trans _ _ _ (srt_lt hsr h ht) hneg))
    refine ⟨r, hr, max K0 K, fun k hk q hq => ?_⟩
    obtain ⟨q, rfl⟩ : ∃ q', q = q' + 1 := ⟨q - 1, by omega⟩
    rw [bsl, if_pos (by omega), hm, rdL_at _ _ hml, hK0 k (by omega)]
    simp only [Option.bind_some]
    rw [if_neg hc]
    exact hK k (by omega) q (by omega)
  ·
   obtain rfl : i = j := by omega
   refine ⟨i, ⟨h3, h4, h5⟩, 0, fun k _ q hq => ?_⟩
   obtain ⟨q, rfl⟩ : ∃ q', q = q' + 1 := ⟨q - 1, by omega⟩
   rw [bsl, if_neg (by omega)]
theorem idxF_none (pos : List Int) : ∀ (l : List (List Int)) (i : Int), (∀ q ∈ l, cmpL q pos ≠ 0) → idxF pos l i = (0, 2)
 | [], i, _ => rfl
 | q :: l, i, h => by rw [idxF, if_neg (h q (by simp))]; exact idxF_none pos l (i + 1) fun x hx => h x (by simp [hx])
theorem idxF_at (pos : List Int) : ∀ (l : List (List Int)) (i : Int) (r : Nat) (h : r < l.length), (∀ t (ht : t < r), cmpL (l[t]'(by omega)) pos ≠ 0) → cmpL l[r] pos = 0 → idxF pos l i = (i + r, 0)
 | q :: l, i, 0, h, _, h2 => by rw [idxF, if_pos (show cmpL q pos = 0 from h2)]; simp
 | q :: l, i, r + 1, h, h1, h2 => by
  rw [idxF, if_neg (show ¬ cmpL q pos = 0 from h1 0 (by omega))]
  rw [idxF_at pos l (i + 1) r (by simpa using h) (fun t ht => h1 (t + 1) (by omega)) h2]
  push_cast
  simp; omega
theorem low_idx (xs : List (List Int)) (pos : List Int) (hsr : Srt xs) (r : Nat) (h : Low xs pos r) : idxF pos xs 0 = if hr : r < xs.length then (if cmpL xs[r] pos = 0 then ((r : Int), 0) else (0, 2)) else (0, 2) := by
 obtain ⟨h1, h2, h3⟩ := h
 by_cases hr : r < xs.length
 ·
  rw [dif_pos hr]
  by_cases hc : cmpL xs[r] pos = 0
  ·
   rw [if_pos hc, idxF_at pos xs 0 r hr (fun t ht => by have := h2 t (by omega) ht; omega) hc]; simp
  ·
   rw [if_neg hc]
   refine idxF_none pos xs 0 fun q hq => ?_
   obtain ⟨t, ht, rfl⟩ := List.getElem_of_mem hq
   rcases Nat.lt_trichotomy t r with h | h | h
   ·
    have := h2 t ht h; omega
   ·
    subst h; exact hc
   ·
    have a1 := h3 r hr (Nat.le_refl _)
    have a2 := cmpL_neg xs[r] pos
    have a3 := srt_lt hsr h ht
    intro he
    have := cmpL_zero he
    rw [this] at a3
    exact a1 a3
 ·
  rw [dif_neg hr]
  refine idxF_none pos xs 0 fun q hq => ?_
  obtain ⟨t, ht, rfl⟩ := List.getElem_of_mem hq
  have := h2 t ht (by omega); omega
theorem bsf_ev (xs : List (List Int)) (pos : List Int) (hsr : Srt xs) (hs : Short xs) (hl : xs.length ≤ 1000000) : ∃ (i : Int) (b : Bool), Ev (fun k => bsf k xs pos) (i, b) ∧ idxF pos xs 0 = if b = true then (i, 0) else (0, 2) := by
 obtain ⟨r, hr, K, hK⟩ := bsl_low xs pos hsr hs hl xs.length 0 xs.length (by omega) (by omega) (by omega) (fun t h h' => by omega) (fun t h h' => by omega)
 have hlow := low_idx xs pos hsr r hr
 have e1 : Ev (fun k => bsl k xs pos k 0 (xs.length : Int)) (r : Int) := ⟨max K (xs.length + 1), fun k hk => hK k (by omega) k (by omega)⟩
 unfold bsf
 by_cases hrl : r < xs.length
 ·
  rw [dif_pos hrl] at hlow
  refine ⟨r, cmpL xs[r] pos == 0, ?_, ?_⟩
  ·
   refine ev_if (fun _ => ?_) fun h => by omega
   refine Ev.bind (f := fun k i => if i < (xs.length : Int) then (position_Compare.f k (rd_L5 xs i) pos).bind fun c => some (i, c == 0) else some (i, false)) e1 ?_
   refine ev_if (fun _ => ?_) fun h => by omega
   rw [rdL_at _ _ hrl]
   exact Ev.bind (f := fun _ c => some ((r : Int), c == 0)) (pCmp_ev _ _ (hs _ (List.getElem_mem hrl))) (Ev.now _)
  ·
   rw [hlow]
   by_cases hc : cmpL xs[r] pos = 0
   ·
    rw [if_pos hc, if_pos (by simpa using hc)]
   ·
    rw [if_neg hc, if_neg (by simpa using hc)]
 ·
  rw [dif_neg hrl] at hlow
  refine ⟨r, false, ?_, by rw [hlow]; rfl⟩
  refine ev_if (fun _ => ?_) fun h => by omega
  refine Ev.bind (f := fun k i => if i < (xs.length : Int) then (position_Compare.f k (rd_L5 xs i) pos).bind fun c => some (i, c == 0) else some (i, false)) e1 ?_
  exact ev_if (fun h => by omega) fun _ => Ev.now _
theorem pIndex_ev (x : S36) (hx : OkNode x) (hc : cnt x ≤ 100000) (pos : List Int) : Ev (fun k => position_Index.f k x.f0 x.f1 x.f2 x.f3 pos) (idxB x pos) := by
 unfold position_Index.f idxB
 refine Ev.bind (f := fun k b => if b.2 = 0 then (bsf k b.1 pos).bind fun r => if r.2 = true then some (r.1, 0) else some (0, 2) else some (0, b.2)) (pAll_ev x hx) ?_
 unfold allB
 have hle := xs_le x
 cases hv : validB x with
 | true =>
  simp only [if_true]
  obtain ⟨i, b, e1, e2⟩ := bsf_ev (xsOf x) pos (kids_srt _ _ _) (xs_short x hc) (by omega)
  rw [e2]
  refine Ev.bind (f := fun _ (r : Int × Bool) => if r.2 = true then some (r.1, (0 : Int)) else some (0, 2)) e1 ?_
  exact ev_if (fun h => ev_now (by simp only at h; rw [if_pos h])) fun h => ev_now (by simp only at h; rw [if_neg h])
 | false => simp only [Bool.false_eq_true, if_false]; exact ev_if (fun h => by simp at h) fun _ => Ev.now _
theorem pValid_ev (x : S36) (hx : OkNode x) (hc : cnt x ≤ 100000) (pos : List Int) : Ev (fun k => position_Valid.f k x.f0 x.f1 x.f2 x.f3 pos) ((idxB x pos).2 == 0) := by
 unfold position_Valid.f
 exact ev_bind (pIndex_ev x hx hc pos) (Ev.now _)
theorem okI_small (n : Int) (h : 0 ≤ n ∧ n < 100) : OkI .i64 n := by
 have := wrap64_wf n
 rwa [wr (by omega)] at this
theorem ok_leaf (k : Int) (s : ByteArray) (hk : 0 ≤ k ∧ k < 100) (hs : s.size ≤ 100) : OkNode ⟨k, s, 0, []⟩ := OkNode.mk _ (okI_small k hk) (by unfold OkS; simp; omega) (okI_small 0 (by omega)) (by simp) (fun y h => by simp at h)
end Go.Proofs.YtagkhoeidjlahaaDoor.G.Pure
