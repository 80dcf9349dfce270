-- Written by pack2.py: this session's texts and the printer's, pruned.
import Derived.Test.YtagkhoeidjlahaaDoorCSe2
import Derived.Test.YtagkhoeidjlahaaDoorCSe24
import Derived.Test.YtagkhoeidjlahaaDoorCSe9
import Derived.Test.YtagkhoeidjlahaaDoorCSe21
import Derived.Test.YtagkhoeidjlahaaDoorCSe27
import Derived.Test.YtagkhoeidjlahaaDoorCSe22
import Derived.Test.YtagkhoeidjlahaaDoorCSe23
import Derived.Test.YtagkhoeidjlahaaDoorCSe26
namespace Go.Proofs.YtagkhoeidjlahaaDoor.G
open Go.RowKit Go.Proofs.YtagkhoeidjlahaaDoorW.PrintWords Go.Proofs.YtagkhoeidjlahaaDoorW.PrintLast Go.Proofs.YtagkhoeidjlahaaDoorW.PrintMore
attribute [local go_sem] max2_int min2_int max_two min_two max_three min_three max_four min_four
set_option linter.unusedVariables false
set_option linter.unusedSimpArgs false
def vinculumref10_Same.f (k : Nat) (l0 : List Int) (l1 : List Int) : Option (Bool) := (vinculumref10_Compare.f k l0 l1).bind fun t389 => (some (t389 == 0))
set_option maxHeartbeats 8000000 in
set_option maxRecDepth 100000 in
theorem vinculumref10_Same.calls (k : Nat) (A0 : Option Addr) (c0 : Nat) (l0 : List Int) (A1 : Option Addr) (c1 : Nat) (l1 : List Int) (r : Bool) (w : World) (hr0 : Kd.C (Kd.int .i64) w A0 l0.length l0) (hc0 : l0.length ≤ c0) (hr1 : Kd.C (Kd.int .i64) w A1 l1.length l1) (hc1 : l1.length ≤ c1) (h : vinculumref10_Same.f k l0 l1 = some r) :
  Calls Tryd.prog 31 #[.slice A0 l0.length c0, .slice A1 l1.length c1] w fun e w' => e = .returned (.bool r) ∧ Drawn0 w w' := by
 have HR0 := Aside0.mk hr0
 have HC0 := Aside0.mk hc0
 clear hr0 hc0
 have HR1 := Aside0.mk hr1
 have HC1 := Aside0.mk hc1
 clear hr1 hc1
 have H : ((vinculumref10_Compare.f k l0 l1).bind fun t389 => (some (t389 == 0))) = some r := h
 clear h
 replace H := Option.bind_eq_some_iff.mp H
 obtain ⟨t389, A30, H⟩ := H
 replace H : (some (t389 == 0)) = some r := H
 have A3 := Aside0.mk A30
 clear A30
 obtain rfl := Option.some.inj H
 go_enter Tryd.func31, Tryd.ntmps31
 go_wp2_with (first | ((with_reducible refine gate_callee (f := 33) rfl ?_); refine goesL_ (some 7) rfl rfl Tryd.func33 (by kernel_rfl) rfl #[.slice A0 l0.length c0, .slice A1 l1.length c1] rfl (by (try simp only [List.map_toArray, List.map_cons, List.map_nil]); first | done | rfl | (simp only [List.length_drop, List.length_take]; rfl)) ?_; (with_reducible refine (vinculumref10_Compare.calls k _ _ l0 _ _ l1 t389 _ ?side1 ?side2 ?side3 ?side4 A3.out).mono ?_); (case side1 => repeat (first | exact HR0.out | (with_reducible refine Kd.C_alloc ?_ _) | (with_reducible refine Kd.C_drewN ?_ _) | (with_reducible refine Kd.C_drew ?_))); (case side2 => exact HC0.out); (case side3 => repeat (first | exact HR1.out | (with_reducible refine Kd.C_alloc ?_ _) | (with_reducible refine Kd.C_drewN ?_ _) | (with_reducible refine Kd.C_drew ?_))); (case side4 => exact HC1.out); rintro e w' ⟨rfl, ⟨nd, rfl⟩⟩; refine ⟨_, rfl, ?_⟩))
 go_ret
 exact ⟨by first | rfl | (simp; done) | (simp [*]; done), by repeat (first | exact Drawn0.refl _ | apply Drawn0.step)⟩
end Go.Proofs.YtagkhoeidjlahaaDoor.G
namespace Go.Proofs.YtagkhoeidjlahaaDoor.G.Pure
open Go.Proofs.YtagkhoeidjlahaaDoorW.PrintWords Go.RowKit
set_option linter.unusedVariables false
set_option linter.unusedSimpArgs false
def cmpL : List Int → List Int → Int
 | [], [] => 0
 | [], _ :: _ => -1
 | _ :: _, [] => 1
 | a :: al, b :: bl => if a < b then -1 else if b < a then 1 else cmpL al bl
theorem cmpL_self : ∀ a, cmpL a a = 0
 | [] => rfl
 | a :: al => by rw [cmpL, if_neg (by omega), if_neg (by omega)]; exact cmpL_self al
theorem cmpL_zero : ∀ {a b}, cmpL a b = 0 → a = b
 | [], [], _ => rfl
 | [], _ :: _, h => by simp [cmpL] at h
 | _ :: _, [], h => by simp [cmpL] at h
 | a :: al, b :: bl, h => by
  rw [cmpL] at h
  split at h
  ·
   simp at h
  ·
   split at h
   ·
    simp at h
   ·
    rw [cmpL_zero h, show a = b by omega]
theorem cmpL_neg : ∀ a b, cmpL b a = - cmpL a b
 | [], [] => rfl
 | [], _ :: _ => rfl
 | _ :: _, [] => rfl
 | a :: al, b :: bl => by
  rw [cmpL, cmpL]
  rcases Int.lt_trichotomy a b with h | h | h
  ·
   rw [if_neg (by omega), if_pos h, if_pos h]; rfl
  ·
   rw [if_neg (by omega), if_neg (by omega), if_neg (by omega), if_neg (by omega)]; exact cmpL_neg al bl
  ·
   rw [if_pos h, if_neg (by omega), if_pos h]
theorem cmpL_trans : ∀ a b c, cmpL a b < 0 → cmpL b c < 0 → cmpL a c < 0
 | [], [], _, h, _ => by simp [cmpL] at h
 | [], _ :: _, [], _, h => by simp [cmpL] at h
 | [], _ :: _, _ :: _, _, _ => by simp [cmpL]
 | _ :: _, [], _, h, _ => by simp [cmpL] at h
 | _ :: _, _ :: _, [], _, h => by simp [cmpL] at h
 | a :: al, b :: bl, c :: cl, h, k => by
  rw [cmpL] at h k ⊢
  rcases Int.lt_trichotomy a b with h1 | h1 | h1
  ·
   rcases Int.lt_trichotomy b c with h2 | h2 | h2
   ·
    rw [if_pos (by omega)]; decide
   ·
    rw [if_pos (by omega)]; decide
   ·
    rw [if_neg (by omega), if_pos h2] at k; simp at k
  ·
   rw [if_neg (by omega), if_neg (by omega)] at h
   rcases Int.lt_trichotomy b c with h2 | h2 | h2
   ·
    rw [if_pos (by omega)]; decide
   ·
    rw [if_neg (by omega), if_neg (by omega)] at k ⊢; exact cmpL_trans al bl cl h k
   ·
    rw [if_neg (by omega), if_pos h2] at k; simp at k
  ·
   rw [if_neg (by omega), if_pos h1] at h; simp at h
theorem cmpL_app : ∀ p a b, cmpL (p ++ a) (p ++ b) = cmpL a b
 | [], a, b => rfl
 | x :: p, a, b => by rw [List.cons_append, List.cons_append, cmpL, if_neg (by omega), if_neg (by omega)]; exact cmpL_app p a b
theorem rd_at (l : List Int) (i : Nat) (h : i < l.length) : rd l i = l[i] := by simp [rd, h]
theorem cmpI_eq (a b : Int) : cmp_Compare_int.f a b = some (if a < b then -1 else if b < a then 1 else 0) := by
 unfold cmp_Compare_int.f cmp_isNaN_int.f
 simp
 split
 ·
  rfl
 ·
  split <;> rfl
theorem pCmp_l (a b : List Int) (ha : a.length ≤ M) : ∀ (m i : Nat), a.length - i = m → i ≤ a.length → Ev (fun k => slices_Compare_int_int.l0 k a b a a.length i) (cmpL (a.drop i) (b.drop i)) := by
 intro m
 unfold M at ha
 induction m with
 | zero =>
  intro i hi hi2
  refine Ev.step (fun k => by rw [slices_Compare_int_int.l0]) ?_
  refine ev_if (fun h => by omega) fun _ => ?_
  rw [List.drop_eq_nil_of_le (by omega)]
  refine ev_if (fun h => ev_now ?_) fun h => ev_now ?_
  ·
   rw [List.drop_eq_getElem_cons (show i < b.length by omega), cmpL]
  ·
   rw [List.drop_eq_nil_of_le (by omega), cmpL]
 | succ m ih =>
  intro i hi hi2
  have hil : i < a.length := by omega
  refine Ev.step (fun k => by rw [slices_Compare_int_int.l0]) ?_
  refine ev_if (fun _ => ?_) fun h => by omega
  refine ev_if (fun _ => ?_) fun h => by omega
  refine ev_if (fun _ => ?_) fun h => by omega
  rw [List.drop_eq_getElem_cons hil]
  refine ev_if (fun h => ev_now ?_) fun h => ?_
  ·
   rw [List.drop_eq_nil_of_le (show b.length ≤ i by omega), cmpL]
  ·
   refine ev_if (fun _ => ?_) fun h => by omega
   rw [List.drop_eq_getElem_cons (show i < b.length by omega), cmpL, rd_at a i hil, rd_at b i (by omega), cmpI_eq]
   refine ev_bind (Ev.now _) ?_
   rcases Int.lt_trichotomy a[i] b[i] with h1 | h1 | h1
   ·
    rw [if_pos h1, if_pos h1]; exact ev_if (fun h => by simp at h) fun _ => Ev.now _
   ·
    rw [if_neg (by omega), if_neg (by omega), if_neg (by omega), if_neg (by omega)]
    refine ev_if (fun _ => ?_) fun h => absurd rfl h
    rw [wr (n := (i : Int) + 1) (by omega)]
    have := ih (i + 1) (by omega) (by omega)
    exact_mod_cast this
   ·
    rw [if_neg (by omega), if_pos h1, if_neg (by omega), if_pos h1]; exact ev_if (fun h => by simp at h) fun _ => Ev.now _
theorem pCmp_ev (a b : List Int) (ha : a.length ≤ M) : Ev (fun k => position_Compare.f k a b) (cmpL a b) := by
 unfold position_Compare.f slices_Compare_int_int.f
 have := pCmp_l a b ha a.length 0 rfl (by omega)
 exact ev_bind (by simpa using this) (Ev.now _)
theorem rCmp_l (a b : List Int) (ha : a.length ≤ M) : ∀ (m i : Nat), a.length - i = m → i ≤ a.length → i ≤ b.length → Ev (fun k => vinculumref10_Compare.l0 k a b i) (cmpL (a.drop i) (b.drop i)) := by
 intro m
 unfold M at ha
 have last : ∀ i : Nat, i ≤ a.length → i ≤ b.length → (i = a.length ∨ i = b.length) → Ev (fun k => vinculumref10_Compare.j1 k a b i false) (cmpL (a.drop i) (b.drop i)) := by
  intro i h1 h2 h3
  refine Ev.step (fun k => by rw [vinculumref10_Compare.j1]) ?_
  refine ev_if (fun h => by cases h) fun _ => ?_
  rcases Nat.lt_trichotomy a.length b.length with h | h | h
  ·
   refine ev_if (fun _ => ev_now ?_) fun h' => by omega
   rw [List.drop_eq_nil_of_le (show a.length ≤ i by omega), List.drop_eq_getElem_cons (show i < b.length by omega), cmpL]
  ·
   refine ev_if (fun h' => by omega) fun _ => ?_
   refine ev_if (fun h' => by omega) fun _ => ev_now ?_
   rw [List.drop_eq_nil_of_le (show a.length ≤ i by omega), List.drop_eq_nil_of_le (show b.length ≤ i by omega), cmpL]
  ·
   refine ev_if (fun h' => by omega) fun _ => ?_
   refine ev_if (fun _ => ev_now ?_) fun h' => by omega
   rw [List.drop_eq_nil_of_le (show b.length ≤ i by omega), List.drop_eq_getElem_cons (show i < a.length by omega), cmpL]
 induction m with
 | zero =>
  intro i hi hi2 hi3
  refine Ev.step (fun k => by rw [vinculumref10_Compare.l0]) ?_
  refine ev_if (fun h => by omega) fun _ => ?_
  exact last i hi2 hi3 (.inl (by omega))
 | succ m ih =>
  intro i hi hi2 hi3
  have hil : i < a.length := by omega
  refine Ev.step (fun k => by rw [vinculumref10_Compare.l0]) ?_
  refine ev_if (fun _ => ?_) fun h => by omega
  by_cases hb : i < b.length
  ·
   rw [decide_eq_true (show (i : Int) < (b.length : Int) by omega)]
   refine Ev.step (fun k => by rw [vinculumref10_Compare.j1]) ?_
   refine ev_if (fun _ => ?_) fun h => absurd rfl h
   refine ev_if (fun _ => ?_) fun h => by omega
   refine ev_if (fun _ => ?_) fun h => by omega
   refine ev_if (fun _ => ?_) fun h => by omega
   rw [List.drop_eq_getElem_cons hil, List.drop_eq_getElem_cons hb, cmpL, rd_at a i hil, rd_at b i hb]
   refine ev_if (fun h => ev_now ?_) fun h1 => ?_
   ·
    rw [if_pos h]
   rw [if_neg h1]
   refine ev_if (fun h => ev_now ?_) fun h2 => ?_
   ·
    rw [if_pos (by omega)]
   rw [if_neg (by omega), wr (n := (i : Int) + 1) (by omega)]
   have := ih (i + 1) (by omega) (by omega) (by omega)
   exact_mod_cast this
  ·
   rw [decide_eq_false (show ¬ (i : Int) < (b.length : Int) by omega)]
   exact last i hi2 hi3 (.inr (by omega))
theorem rCmp_ev (a b : List Int) (ha : a.length ≤ M) : Ev (fun k => vinculumref10_Compare.f k a b) (cmpL a b) := by
 unfold vinculumref10_Compare.f
 have := rCmp_l a b ha a.length 0 rfl (by omega) (by omega)
 simpa using this
theorem same_ev (a b : List Int) (ha : a.length ≤ M) : Ev (fun k => vinculumref10_Same.f k a b) (cmpL a b == 0) := by
 unfold vinculumref10_Same.f
 exact ev_bind (rCmp_ev a b ha) (Ev.now _)
theorem same_self (a : List Int) (ha : a.length ≤ M) : Ev (fun k => vinculumref10_Same.f k a a) true := by
 have := same_ev a a ha
 rw [cmpL_self] at this
 exact this
mutual
theorem kids_mem : ∀ (p : List Int) (i : Int) (l : List S36) (q : List Int), q ∈ posKids p i l → ∃ j r, q = p ++ j :: r ∧ i ≤ j
 | p, i, [], q, h => by
  rw [posKids, List.mem_singleton] at h
  exact ⟨i, [], h, Int.le_refl _⟩
 | p, i, x :: l, q, h => by
  rw [posKids, List.mem_cons, List.mem_append] at h
  rcases h with h | h | h
  ·
   exact ⟨i, [], h, Int.le_refl _⟩
  ·
   obtain ⟨s, r, h2⟩ := item_mem p i x q h
   exact ⟨i, s :: r, h2, Int.le_refl _⟩
  ·
   obtain ⟨j, r, h2, h3⟩ := kids_mem p (i + 1) l q h
   exact ⟨j, r, h2, by omega⟩
theorem item_mem : ∀ (p : List Int) (i : Int) (x : S36) (q : List Int), q ∈ posItem p i x → ∃ s r, q = p ++ i :: s :: r
 | p, i, ⟨_, _, _, l⟩, q, h => by
  rw [posItem] at h
  obtain ⟨s, r, h2, _⟩ := slots_mem p i 0 l q h
  exact ⟨s, r, h2⟩
theorem slots_mem : ∀ (p : List Int) (i s : Int) (l : List S36) (q : List Int), q ∈ posSlots p i s l → ∃ t r, q = p ++ i :: t :: r ∧ s ≤ t
 | p, i, s, [], q, h => by simp [posSlots] at h
 | p, i, s, y :: l, q, h => by
  rw [posSlots, List.mem_append] at h
  rcases h with h | h
  ·
   obtain ⟨r, h2⟩ := slot_mem (p ++ [i, s]) y q h
   exact ⟨s, r, by rw [h2]; simp, Int.le_refl _⟩
  ·
   obtain ⟨t, r, h2, h3⟩ := slots_mem p i (s + 1) l q h
   exact ⟨t, r, h2, by omega⟩
theorem slot_mem : ∀ (p : List Int) (y : S36) (q : List Int), q ∈ posSlot p y → ∃ r, q = p ++ r
 | p, ⟨_, _, _, l⟩, q, h => by
  rw [posSlot] at h
  obtain ⟨j, r, h2, _⟩ := kids_mem p 0 l q h
  exact ⟨j :: r, h2⟩
end
def Srt (l : List (List Int)) : Prop := l.Pairwise fun a b => cmpL a b < 0
mutual
theorem kids_srt : ∀ (p : List Int) (i : Int) (l : List S36), Srt (posKids p i l)
 | p, i, [] => by rw [posKids]; exact List.pairwise_singleton _ _
 | p, i, x :: l => by
  rw [posKids]
  refine List.pairwise_cons.2 ⟨fun q h => ?_, List.pairwise_append.2 ⟨item_srt p i x, kids_srt p (i + 1) l, fun a ha b hb => ?_⟩⟩
  ·
   rcases List.mem_append.1 h with h | h
   ·
    obtain ⟨s, r, rfl⟩ := item_mem p i x q h
    rw [cmpL_app, cmpL, if_neg (by omega), if_neg (by omega)]; simp [cmpL]
   ·
    obtain ⟨j, r, rfl, h2⟩ := kids_mem p (i + 1) l q h
    rw [cmpL_app, cmpL, if_pos (by omega)]; decide
  ·
   obtain ⟨s, r, rfl⟩ := item_mem p i x a ha
   obtain ⟨j, r2, rfl, h2⟩ := kids_mem p (i + 1) l b hb
   rw [cmpL_app, cmpL, if_pos (by omega)]; decide
theorem item_srt : ∀ (p : List Int) (i : Int) (x : S36), Srt (posItem p i x)
 | p, i, ⟨_, _, _, l⟩ => by rw [posItem]; exact slots_srt p i 0 l
theorem slots_srt : ∀ (p : List Int) (i s : Int) (l : List S36), Srt (posSlots p i s l)
 | p, i, s, [] => by rw [posSlots]; exact List.Pairwise.nil
 | p, i, s, y :: l => by
  rw [posSlots]
  refine List.pairwise_append.2 ⟨slot_srt (p ++ [i, s]) y, slots_srt p i (s + 1) l, fun a ha b hb => ?_⟩
  obtain ⟨r, rfl⟩ := slot_mem (p ++ [i, s]) y a ha
  obtain ⟨t, r2, rfl, h2⟩ := slots_mem p i (s + 1) l b hb
  rw [List.append_assoc, cmpL_app]
  simp only [List.cons_append, List.nil_append]
  rw [cmpL, if_neg (by omega), if_neg (by omega), cmpL, if_pos (by omega)]; decide
theorem slot_srt : ∀ (p : List Int) (y : S36), Srt (posSlot p y)
 | p, ⟨_, _, _, l⟩ => by rw [posSlot]; exact kids_srt p 0 l
end
theorem srt_lt {l : List (List Int)} (h : Srt l) {i j : Nat} (hij : i < j) (hj : j < l.length) : cmpL (l[i]'(by omega)) l[j] < 0 := List.pairwise_iff_getElem.1 h i j (by omega) hj hij
theorem rAll_ev : ∀ (n : Nat) (x : S36), cnt x ≤ n → n ≤ 100000 → OkNode x → ∀ p : List Int, p.length + 2 * n ≤ 1000000 → Ev (fun k => vinculumref10_all.f k x.f0 x.f1 x.f2 x.f3 p) (posKids p 0 x.f3) := by
 intro n
 induction n with
 | zero => intro x h; have := cnt_pos x; omega
 | succ n ih =>
  intro x hn hM hx p hp
  obtain ⟨h1, h2, h3⟩ := ok_open hx
  unfold M at h2
  rw [cnt_eq] at hn
  have loop : ∀ (m i : Nat) (out : List (List Int)), x.f3.length - i = m → i ≤ x.f3.length → cntL (x.f3.drop i) ≤ n → out.length + 3 * cntL (x.f3.drop i) + 1 ≤ 1000000 → Ev (fun k => vinculumref10_all.l0 k p out i x.f0 x.f1 x.f2 x.f3) (out ++ posKids p i (x.f3.drop i)) := by
   intro m
   induction m with
   | zero =>
    intro i out hi hi2 _ ho
    refine Ev.step (fun k => by rw [vinculumref10_all.l0]) ?_
    refine ev_if (fun _ => ?_) fun h => by omega
    refine ev_bind (Ev.now _) ?_
    refine ev_if (fun _ => ?_) fun h => absurd (show ([] : List Int).length + p.length < 17592186044416 by simp; omega) h
    refine ev_bind (Ev.now _) ?_
    refine ev_if (fun _ => ?_) fun h => absurd (show (([] : List Int) ++ p).length < 17592186044416 by simp; omega) h
    refine ev_if (fun _ => ?_) fun h => by omega
    refine ev_bind (Ev.now _) ?_
    refine ev_if (fun _ => ev_now ?_) fun h => by omega
    rw [List.drop_eq_nil_of_le (show x.f3.length ≤ i by omega), posKids]
    simp
   | succ m ihm =>
    intro i out hi hi2 hc ho
    have hil : i < x.f3.length := by omega
    have hd := List.drop_eq_getElem_cons hil
    rw [cntL_drop hil] at hc ho
    have hix := cnt_eq x.f3[i]
    have hok := ok_open (h3 _ (List.getElem_mem hil))
    have hsl := hok.2.1
    unfold M at hsl
    have slots : ∀ (u s : Nat) (out : List (List Int)), x.f3[i].f3.length - s = u → s ≤ x.f3[i].f3.length → cntL (x.f3[i].f3.drop s) ≤ n → out.length + 3 * cntL (x.f3[i].f3.drop s) + 3 * cntL (x.f3.drop (i + 1)) + 1 ≤ 1000000 →
      Ev (fun k => vinculumref10_all.l1 k p out i s x.f0 x.f1 x.f2 x.f3) (out ++ posSlots p i s (x.f3[i].f3.drop s) ++ posKids p (i + 1 : Nat) (x.f3.drop (i + 1))) := by
     intro u
     induction u with
     | zero =>
      intro s out hs hs2 _ ho2
      refine Ev.step (fun k => by rw [vinculumref10_all.l1]) ?_
      refine ev_if (fun _ => ?_) fun h => by omega
      refine ev_if (fun _ => ?_) fun h => by omega
      rw [rdT_at _ _ hil]
      refine ev_if (fun h => by omega) fun _ => ?_
      rw [List.drop_eq_nil_of_le (show x.f3[i].f3.length ≤ s by omega), posSlots, List.append_nil, wr (n := (i : Int) + 1) (by omega)]
      have := ihm (i + 1) out (by omega) (by omega) (by omega) (by omega)
      exact_mod_cast this
     | succ u ihu =>
      intro s out hs hs2 hcs ho2
      have hsl2 : s < x.f3[i].f3.length := by omega
      have hd2 := List.drop_eq_getElem_cons hsl2
      rw [cntL_drop hsl2] at hcs ho2
      have hcy := cnt_eq x.f3[i].f3[s]
      have hpl := posKids_len (p ++ [(i : Int), (s : Int)]) 0 x.f3[i].f3[s].f3
      refine Ev.step (fun k => by rw [vinculumref10_all.l1]) ?_
      refine ev_if (fun _ => ?_) fun h => by omega
      refine ev_if (fun _ => ?_) fun h => by omega
      rw [rdT_at _ _ hil, rdT_at _ _ hsl2]
      refine ev_if (fun _ => ?_) fun h => by omega
      refine ev_if (fun _ => ?_) fun h => by omega
      refine ev_bind (Ev.now _) ?_
      refine ev_if (fun _ => ?_) fun h => absurd (show ([] : List Int).length + p.length < 17592186044416 by simp; omega) h
      refine ev_bind (Ev.now _) ?_
      refine ev_bind (Ev.now _) ?_
      refine ev_if (fun _ => ?_) fun h => absurd (show (([] : List Int) ++ p).length + ([(i : Int), (s : Int)] : List Int).length < 17592186044416 by simp; omega) h
      refine ev_bind (ih x.f3[i].f3[s] (by omega) (by omega) (hok.2.2 _ (List.getElem_mem hsl2)) _ (by simp; omega)) ?_
      rw [List.nil_append]
      refine ev_if (fun _ => ?_) fun h => by omega
      rw [wr (n := (s : Int) + 1) (by omega)]
      have := ihu (s + 1) (out ++ posKids (p ++ [(i : Int), (s : Int)]) 0 x.f3[i].f3[s].f3) (by omega) (by omega) (by omega) (by rw [List.length_append]; omega)
      rw [hd2, posSlots, posSlot_eq]
      rw [← List.append_assoc] 
      exact_mod_cast this
    refine Ev.step (fun k => by rw [vinculumref10_all.l0]) ?_
    refine ev_if (fun _ => ?_) fun h => by omega
    refine ev_bind (Ev.now _) ?_
    refine ev_if (fun _ => ?_) fun h => absurd (show ([] : List Int).length + p.length < 17592186044416 by simp; omega) h
    refine ev_bind (Ev.now _) ?_
    refine ev_if (fun _ => ?_) fun h => absurd (show (([] : List Int) ++ p).length < 17592186044416 by simp; omega) h
    refine ev_if (fun _ => ?_) fun h => by omega
    refine ev_bind (Ev.now _) ?_
    refine ev_if (fun h => by omega) fun _ => ?_
    have := slots x.f3[i].f3.length 0 (out ++ [p ++ [(i : Int)]]) rfl (by omega) (by simp; omega) (by simp; omega)
    rw [hd, posKids, posItem_eq, List.nil_append]
    simp only [List.drop_zero, List.append_assoc, List.cons_append, List.nil_append] at this ⊢
    exact_mod_cast this
  refine Ev.step (fun k => by rw [vinculumref10_all.f]) ?_
  have := loop x.f3.length 0 [] rfl (by omega) (by simp; omega) (by simp; omega)
  simpa using this
end Go.Proofs.YtagkhoeidjlahaaDoor.G.Pure
