-- Written by pack2.py, a program of this session: this session's texts and those that the kit's printer wrote for this claim, pruned to what the claims use.
import Derived.Test.YtagkhoeidjlahaaDoorCSb2
import Derived.Test.YtagkhoeidjlahaaDoorCSb17
import Derived.Test.YtagkhoeidjlahaaDoorCSb8
import Derived.Test.YtagkhoeidjlahaaDoorCSb15
import Derived.Test.YtagkhoeidjlahaaDoorCSb19
import Derived.Test.YtagkhoeidjlahaaDoorCSb16
namespace Go.Proofs.YtagkhoeidjlahaaDoor.G
open Go.RowKit Go.Proofs.YtagkhoeidjlahaaDoorW.PrintWords Go.Proofs.YtagkhoeidjlahaaDoorW.PrintLast Go.Proofs.YtagkhoeidjlahaaDoorW.PrintMore
attribute [local go_sem] max2_int min2_int max_two min_two max_three min_three max_four min_four
set_option linter.unusedVariables false
set_option linter.unusedSimpArgs false
def vinculumref10_Same.f (k : Nat) (l0 : List Int) (l1 : List Int) : Option (Bool) := (vinculumref10_Compare.f k l0 l1).bind fun t389 => (some (t389 == 0))
set_option maxHeartbeats 8000000 in
set_option maxRecDepth 100000 in
theorem vinculumref10_Same.calls (k : Nat) (A0 : Option Addr) (c0 : Nat) (l0 : List Int) (A1 : Option Addr) (c1 : Nat) (l1 : List Int) (r : Bool) (w : World) (hr0 : Kd.C (Kd.int .i64) w A0 l0.length l0) (hc0 : l0.length ≤ c0) (hr1 : Kd.C (Kd.int .i64) w A1 l1.length l1) (hc1 : l1.length ≤ c1) (h : vinculumref10_Same.f k l0 l1 = some r) :
  Calls Tryd.prog 31 #[.slice A0 l0.length c0, .slice A1 l1.length c1] w fun e w' => e = .returned (.bool r) ∧ Drawn0 w w' := by
 have HR0 := Aside0.mk hr0
 have HC0 := Aside0.mk hc0
 clear hr0 hc0
 have HR1 := Aside0.mk hr1
 have HC1 := Aside0.mk hc1
 clear hr1 hc1
 have H : ((vinculumref10_Compare.f k l0 l1).bind fun t389 => (some (t389 == 0))) = some r := h
 clear h
 replace H := Option.bind_eq_some_iff.mp H
 obtain ⟨t389, A30, H⟩ := H
 replace H : (some (t389 == 0)) = some r := H
 have A3 := Aside0.mk A30
 clear A30
 obtain rfl := Option.some.inj H
 go_enter Tryd.func31, Tryd.ntmps31
 go_wp2_with (first | ((with_reducible refine gate_callee (f := 33) rfl ?_); refine goesL_ (some 7) rfl rfl Tryd.func33 (by kernel_rfl) rfl #[.slice A0 l0.length c0, .slice A1 l1.length c1] rfl (by (try simp only [List.map_toArray, List.map_cons, List.map_nil]); first | done | rfl | (simp only [List.length_drop, List.length_take]; rfl)) ?_; (with_reducible refine (vinculumref10_Compare.calls k _ _ l0 _ _ l1 t389 _ ?side1 ?side2 ?side3 ?side4 A3.out).mono ?_); (case side1 => repeat (first | exact HR0.out | (with_reducible refine Kd.C_alloc ?_ _) | (with_reducible refine Kd.C_drewN ?_ _) | (with_reducible refine Kd.C_drew ?_))); (case side2 => exact HC0.out); (case side3 => repeat (first | exact HR1.out | (with_reducible refine Kd.C_alloc ?_ _) | (with_reducible refine Kd.C_drewN ?_ _) | (with_reducible refine Kd.C_drew ?_))); (case side4 => exact HC1.out); rintro e w' ⟨rfl, ⟨nd, rfl⟩⟩; refine ⟨_, rfl, ?_⟩))
 go_ret
 exact ⟨by first | rfl | (simp; done) | (simp [*]; done), by repeat (first | exact Drawn0.refl _ | apply Drawn0.step)⟩
end Go.Proofs.YtagkhoeidjlahaaDoor.G
namespace Go.Proofs.YtagkhoeidjlahaaDoor.G.Pure
open Go.Proofs.YtagkhoeidjlahaaDoorW.PrintWords Go.RowKit
set_option linter.unusedVariables false
set_option linter.unusedSimpArgs false
def cmpL : List Int → List Int → Int
 | [], [] => 0
 | [], _ :: _ => -1
 | _ :: _, [] => 1
 | a :: al, b :: bl => if a < b then -1 else if b < a then 1 else cmpL al bl
theorem cmpL_self : ∀ a, cmpL a a = 0
 | [] => rfl
 | a :: al => by rw [cmpL, if_neg (by omega), if_neg (by omega)]; exact cmpL_self al
theorem cmpL_zero : ∀ {a b}, cmpL a b = 0 → a = b
 | [], [], _ => rfl
 | [], _ :: _, h => by simp [cmpL] at h
 | _ :: _, [], h => by simp [cmpL] at h
 | a :: al, b :: bl, h => by
  rw [cmpL] at h
  split at h
  ·
   simp at h
  ·
   split at h
   ·
    simp at h
   ·
    rw [cmpL_zero h, show a = b by omega]
theorem cmpL_neg : ∀ a b, cmpL b a = - cmpL a b
 | [], [] => rfl
 | [], _ :: _ => rfl
 | _ :: _, [] => rfl
 | a :: al, b :: bl => by
  rw [cmpL, cmpL]
  rcases Int.lt_trichotomy a b with h | h | h
  ·
   rw [if_neg (by omega), if_pos h, if_pos h]; rfl
  ·
   rw [if_neg (by omega), if_neg (by omega), if_neg (by omega), if_neg (by omega)]; exact cmpL_neg al bl
  ·
   rw [if_pos h, if_neg (by omega), if_pos h]
theorem cmpL_trans : ∀ a b c, cmpL a b < 0 → cmpL b c < 0 → cmpL a c < 0
 | [], [], _, h, _ => by simp [cmpL] at h
 | [], _ :: _, [], _, h => by simp [cmpL] at h
 | [], _ :: _, _ :: _, _, _ => by simp [cmpL]
 | _ :: _, [], _, h, _ => by simp [cmpL] at h
 | _ :: _, _ :: _, [], _, h => by simp [cmpL] at h
 | a :: al, b :: bl, c :: cl, h, k => by
  rw [cmpL] at h k ⊢
  rcases Int.lt_trichotomy a b with h1 | h1 | h1
  ·
   rcases Int.lt_trichotomy b c with h2 | h2 | h2
   ·
    rw [if_pos (by omega)]; decide
   ·
    rw [if_pos (by omega)]; decide
   ·
    rw [if_neg (by omega), if_pos h2] at k; simp at k
  ·
   rw [if_neg (by omega), if_neg (by omega)] at h
   rcases Int.lt_trichotomy b c with h2 | h2 | h2
   ·
    rw [if_pos (by omega)]; decide
   ·
    rw [if_neg (by omega), if_neg (by omega)] at k ⊢; exact cmpL_trans al bl cl h k
   ·
    rw [if_neg (by omega), if_pos h2] at k; simp at k
  ·
   rw [if_neg (by omega), if_pos h1] at h; simp at h
theorem cmpL_app : ∀ p a b, cmpL (p ++ a) (p ++ b) = cmpL a b
 | [], a, b => rfl
 | x :: p, a, b => by rw [List.cons_append, List.cons_append, cmpL, if_neg (by omega), if_neg (by omega)]; exact cmpL_app p a b
theorem rd_at (l : List Int) (i : Nat) (h : i < l.length) : rd l i = l[i] := by simp [rd, h]
theorem cmpI_eq (a b : Int) : cmp_Compare_int.f a b = some (if a < b then -1 else if b < a then 1 else 0) := by
 unfold cmp_Compare_int.f cmp_isNaN_int.f
 simp
 split
 ·
  rfl
 ·
  split <;> rfl
theorem pCmp_l (a b : List Int) (ha : a.length ≤ M) : ∀ (m i : Nat), a.length - i = m → i ≤ a.length → Ev (fun k => slices_Compare_int_int.l0 k a b a a.length i) (cmpL (a.drop i) (b.drop i)) := by
 intro m
 unfold M at ha
 induction m with
 | zero =>
  intro i hi hi2
  refine Ev.step (fun k => by rw [slices_Compare_int_int.l0]) ?_
  refine ev_if (fun h => by omega) fun _ => ?_
  rw [List.drop_eq_nil_of_le (by omega)]
  refine ev_if (fun h => ev_now ?_) fun h => ev_now ?_
  ·
   rw [List.drop_eq_getElem_cons (show i < b.length by omega), cmpL]
  ·
   rw [List.drop_eq_nil_of_le (by omega), cmpL]
 | succ m ih =>
  intro i hi hi2
  have hil : i < a.length := by omega
  refine Ev.step (fun k => by rw [slices_Compare_int_int.l0]) ?_
  refine ev_if (fun _ => ?_) fun h => by omega
  refine ev_if (fun _ => ?_) fun h => by omega
  refine ev_if (fun _ => ?_) fun h => by omega
  rw [List.drop_eq_getElem_cons hil]
  refine ev_if (fun h => ev_now ?_) fun h => ?_
  ·
   rw [List.drop_eq_nil_of_le (show b.length ≤ i by omega), cmpL]
  ·
   refine ev_if (fun _ => ?_) fun h => by omega
   rw [List.drop_eq_getElem_cons (show i < b.length by omega), cmpL, rd_at a i hil, rd_at b i (by omega), cmpI_eq]
   refine ev_bind (Ev.now _) ?_
   rcases Int.lt_trichotomy a[i] b[i] with h1 | h1 | h1
   ·
    rw [if_pos h1, if_pos h1]; exact ev_if (fun h => by simp at h) fun _ => Ev.now _
   ·
    rw [if_neg (by omega), if_neg (by omega), if_neg (by omega), if_neg (by omega)]
    refine ev_if (fun _ => ?_) fun h => absurd rfl h
    rw [wr (n := (i : Int) + 1) (by omega)]
    have := ih (i + 1) (by omega) (by omega)
    exact_mod_cast this
   ·
    rw [if_neg (by omega), if_pos h1, if_neg (by omega), if_pos h1]; exact ev_if (fun h => by simp at h) fun _ => Ev.now _
theorem pCmp_ev (a b : List Int) (ha : a.length ≤ M) : Ev (fun k => position_Compare.f k a b) (cmpL a b) := by
 unfold position_Compare.f slices_Compare_int_int.f
 have := pCmp_l a b ha a.length 0 rfl (by omega)
 exact ev_bind (by simpa using this) (Ev.now _)
theorem rCmp_l (a b : List Int) (ha : a.length ≤ M) : ∀ (m i : Nat), a.length - i = m → i ≤ a.length → i ≤ b.length → Ev (fun k => vinculumref10_Compare.l0 k a b i) (cmpL (a.drop i) (b.drop i)) := by
 intro m
 unfold M at ha
 have last : ∀ i : Nat, i ≤ a.length → i ≤ b.length → (i = a.length ∨ i = b.length) → Ev (fun k => vinculumref10_Compare.j1 k a b i false) (cmpL (a.drop i) (b.drop i)) := by
  intro i h1 h2 h3
  refine Ev.step (fun k => by rw [vinculumref10_Compare.j1]) ?_
  refine ev_if (fun h => by cases h) fun _ => ?_
  rcases Nat.lt_trichotomy a.length b.length with h | h | h
  ·
   refine ev_if (fun _ => ev_now ?_) fun h' => by omega
   rw [List.drop_eq_nil_of_le (show a.length ≤ i by omega), List.drop_eq_getElem_cons (show i < b.length by omega), cmpL]
  ·
   refine ev_if (fun h' => by omega) fun _ => ?_
   refine ev_if (fun h' => by omega) fun _ => ev_now ?_
   rw [List.drop_eq_nil_of_le (show a.length ≤ i by omega), List.drop_eq_nil_of_le (show b.length ≤ i by omega), cmpL]
  ·
   refine ev_if (fun h' => by omega) fun _ => ?_
   refine ev_if (fun _ => ev_now ?_) fun h' => by omega
   rw [List.drop_eq_nil_of_le (show b.length ≤ i by omega), List.drop_eq_getElem_cons (show i < a.length by omega), cmpL]
 induction m with
 | zero =>
  intro i hi hi2 hi3
  refine Ev.step (fun k => by rw [vinculumref10_Compare.l0]) ?_
  refine ev_if (fun h => by omega) fun _ => ?_
  exact last i hi2 hi3 (.inl (by omega))
 | succ m ih =>
  intro i hi hi2 hi3
  have hil : i < a.length := by omega
  refine Ev.step (fun k => by rw [vinculumref10_Compare.l0]) ?_
  refine ev_if (fun _ => ?_) fun h => by omega
  by_cases hb : i < b.length
  ·
   rw [decide_eq_true (show (i : Int) < (b.length : Int) by omega)]
   refine Ev.step (fun k => by rw [vinculumref10_Compare.j1]) ?_
   refine ev_if (fun _ => ?_) fun h => absurd rfl h
   refine ev_if (fun _ => ?_) fun h => by omega
   refine ev_if (fun _ => ?_) fun h => by omega
   refine ev_if (fun _ => ?_) fun h => by omega
   rw [List.drop_eq_getElem_cons hil, List.drop_eq_getElem_cons hb, cmpL, rd_at a i hil, rd_at b i hb]
   refine ev_if (fun h => ev_now ?_) fun h1 => ?_
   ·
    rw [if_pos h]
   rw [if_neg h1]
   refine ev_if (fun h => ev_now ?_) fun h2 => ?_
   ·
    rw [if_pos (by omega)]
   rw [if_neg (by omega), wr (n := (i : Int) + 1) (by omega)]
   have := ih (i + 1) (by omega) (by omega) (by omega)
   exact_mod_cast this
  ·
   rw [decide_eq_false (show ¬ (i : Int) < (b.length : Int) by omega)]
   exact last i hi2 hi3 (.inr (by omega))
theorem rCmp_ev (a b : List Int) (ha : a.length ≤ M) : Ev (fun k => vinculumref10_Compare.f k a b) (cmpL a b) := by
 unfold vinculumref10_Compare.f
 have := rCmp_l a b ha a.length 0 rfl (by omega) (by omega)
 simpa using this
theorem same_ev (a b : List Int) (ha : a.length ≤ M) : Ev (fun k => vinculumref10_Same.f k a b) (cmpL a b == 0) := by
 unfold vinculumref10_Same.f
 exact ev_bind (rCmp_ev a b ha) (Ev.now _)
theorem same_self (a : List Int) (ha : a.length ≤ M) : Ev (fun k => vinculumref10_Same.f k a a) true := by
 have := same_ev a a ha
 rw [cmpL_self] at this
 exact this
mutual
theorem kids_mem : ∀ (p : List Int) (i : Int) (l : List S36) (q : List Int), q ∈ posKids p i l → ∃ j r, q = p ++ j :: r ∧ i ≤ j
 | p, i, [], q, h => by
  rw [posKids, List.mem_singleton] at h
  exact ⟨i, [], h, Int.le_refl _⟩
 | p, i, x :: l, q, h => by
  rw [posKids, List.mem_cons, List.mem_append] at h
  rcases h with h | h | h
  ·
   exact ⟨i, [], h, Int.le_refl _⟩
  ·
   obtain ⟨s, r, h2⟩ := item_mem p i x q h
   exact ⟨i, s :: r, h2, Int.le_refl _⟩
  ·
   obtain ⟨j, r, h2, h3⟩ := kids_mem p (i + 1) l q h
   exact ⟨j, r, h2, by omega⟩
theorem item_mem : ∀ (p : List Int) (i : Int) (x : S36) (q : List Int), q ∈ posItem p i x → ∃ s r, q = p ++ i :: s :: r
 | p, i, ⟨_, _, _, l⟩, q, h => by
  rw [posItem] at h
  obtain ⟨s, r, h2, _⟩ := slots_mem p i 0 l q h
  exact ⟨s, r, h2⟩
theorem slots_mem : ∀ (p : List Int) (i s : Int) (l : List S36) (q : List Int), q ∈ posSlots p i s l → ∃ t r, q = p ++ i :: t :: r ∧ s ≤ t
 | p, i, s, [], q, h => by simp [posSlots] at h
 | p, i, s, y :: l, q, h => by
  rw [posSlots, List.mem_append] at h
  rcases h with h | h
  ·
   obtain ⟨r, h2⟩ := slot_mem (p ++ [i, s]) y q h
   exact ⟨s, r, by rw [h2]; simp, Int.le_refl _⟩
  ·
   obtain ⟨t, r, h2, h3⟩ := slots_mem p i (s + 1) l q h
   exact ⟨t, r, h2, by omega⟩
theorem slot_mem : ∀ (p : List Int) (y : S36) (q : List Int), q ∈ posSlot p y → ∃ r, q = p ++ r
 | p, ⟨_, _, _, l⟩, q, h => by
  rw [posSlot] at h
  obtain ⟨j, r, h2, _⟩ := kids_mem p 0 l q h
  exact ⟨j :: r, h2⟩
end
def Srt (l : List (List Int)) : Prop := l.Pairwise fun a b => cmpL a b < 0
mutual
theorem kids_srt : ∀ (p : List Int) (i : Int) (l : List S36), Srt (posKids p i l)
 | p, i, [] => by rw [posKids]; exact List.pairwise_singleton _ _
 | p, i, x :: l => by
  rw [posKids]
  refine List.pairwise_cons.2 ⟨fun q h => ?_, List.pairwise_append.2 ⟨item_srt p i x, kids_srt p (i + 1) l, fun a ha b hb => ?_⟩⟩
  ·
   rcases List.mem_append.1 h with h | h
   ·
    obtain ⟨s, r, rfl⟩ := item_mem p i x q h
    rw [cmpL_app, cmpL, if_neg (by omega), if_neg (by omega)]; simp [cmpL]
   ·
    obtain ⟨j, r, rfl, h2⟩ := kids_mem p (i + 1) l q h
    rw [cmpL_app, cmpL, if_pos (by omega)]; decide
  ·
   obtain ⟨s, r, rfl⟩ := item_mem p i x a ha
   obtain ⟨j, r2, rfl, h2⟩ := kids_mem p (i + 1) l b hb
   rw [cmpL_app, cmpL, if_pos (by omega)]; decide
theorem item_srt : ∀ (p : List Int) (i : Int) (x : S36), Srt (posItem p i x)
 | p, i, ⟨_, _, _, l⟩ => by rw [posItem]; exact slots_srt p i 0 l
theorem slots_srt : ∀ (p : List Int) (i s : Int) (l : List S36), Srt (posSlots p i s l)
 | p, i, s, [] => by rw [posSlots]; exact List.Pairwise.nil
 | p, i, s, y :: l => by
  rw [posSlots]
  refine List.pairwise_append.2 ⟨slot_srt (p ++ [i, s]) y, slots_srt p i (s + 1) l, fun a ha b hb => ?_⟩
  obtain ⟨r, rfl⟩ := slot_mem (p ++ [i, s]) y a ha
  obtain ⟨t, r2, rfl, h2⟩ := slots_mem p i (s + 1) l b hb
  rw [List.append_assoc, cmpL_app]
  simp only [List.cons_append, List.nil_append]
  rw [cmpL, if_neg (by omega), if_neg (by omega), cmpL, if_pos (by omega)]; decide
theorem slot_srt : ∀ (p : List Int) (y : S36), Srt (posSlot p y)
 | p, ⟨_, _, _, l⟩ => by rw [posSlot]; exact kids_srt p 0 l
end
theorem srt_lt {l : List (List Int)} (h : Srt l) {i j : Nat} (hij : i < j) (hj : j < l.length) : cmpL (l[i]'(by omega)) l[j] < 0 := List.pairwise_iff_getElem.1 h i j (by omega) hj hij
theorem rAll_ev : ∀ (n : Nat) (x : S36), cnt x ≤ n → n ≤ 100000 → OkNode x → ∀ p : List Int, p.length + 2 * n ≤ 1000000 → Ev (fun k => vinculumref10_all.f k x.f0 x.f1 x.f2 x.f3 p) (posKids p 0 x.f3) := by
 intro n
 induction n with
 | zero => intro x h; have := cnt_pos x; omega
 | succ n ih =>
  intro x hn hM hx p hp
  obtain ⟨h1, h2, h3⟩ := ok_open hx
  unfold M at h2
  rw [cnt_eq] at hn
  have loop : ∀ (m i : Nat) (out : List (List Int)), x.f3.length - i = m → i ≤ x.f3.length → cntL (x.f3.drop i) ≤ n → out.length + 3 * cntL (x.f3.drop i) + 1 ≤ 1000000 → Ev (fun k => vinculumref10_all.l0 k p out i x.f0 x.f1 x.f2 x.f3) (out ++ posKids p i (x.f3.drop i)) := by
   intro m
   induction m with
   | zero =>
    intro i out hi hi2 _ ho
    refine Ev.step (fun k => by rw [vinculumref10_all.l0]) ?_
    refine ev_if (fun _ => ?_) fun h => by omega
    refine ev_bind (Ev.now _) ?_
    refine ev_if (fun _ => ?_) fun h => absurd (show ([] : List Int).length + p.length < 17592186044416 by simp; omega) h
    refine ev_bind (Ev.now _) ?_
    refine ev_if (fun _ => ?_) fun h => absurd (show (([] : List Int) ++ p).length < 17592186044416 by simp; omega) h
    refine ev_if (fun _ => ?_) fun h => by omega
    refine ev_bind (Ev.now _) ?_
    refine ev_if (fun _ => ev_now ?_) fun h => by omega
    rw [List.drop_eq_nil_of_le (show x.f3.length ≤ i by omega), posKids]
    simp
   | succ m ihm =>
    intro i out hi hi2 hc ho
    have hil : i < x.f3.length := by omega
    have hd := List.drop_eq_getElem_cons hil
    rw [cntL_drop hil] at hc ho
    have hix := cnt_eq x.f3[i]
    have hok := ok_open (h3 _ (List.getElem_mem hil))
    have hsl := hok.2.1
    unfold M at hsl
    have slots : ∀ (u s : Nat) (out : List (List Int)), x.f3[i].f3.length - s = u → s ≤ x.f3[i].f3.length → cntL (x.f3[i].f3.drop s) ≤ n → out.length + 3 * cntL (x.f3[i].f3.drop s) + 3 * cntL (x.f3.drop (i + 1)) + 1 ≤ 1000000 →
      Ev (fun k => vinculumref10_all.l1 k p out i s x.f0 x.f1 x.f2 x.f3) (out ++ posSlots p i s (x.f3[i].f3.drop s) ++ posKids p (i + 1 : Nat) (x.f3.drop (i + 1))) := by
     intro u
     induction u with
     | zero =>
      intro s out hs hs2 _ ho2
      refine Ev.step (fun k => by rw [vinculumref10_all.l1]) ?_
      refine ev_if (fun _ => ?_) fun h => by omega
      refine ev_if (fun _ => ?_) fun h => by omega
      rw [rdT_at _ _ hil]
      refine ev_if (fun h => by omega) fun _ => ?_
      rw [List.drop_eq_nil_of_le (show x.f3[i].f3.length ≤ s by omega), posSlots, List.append_nil, wr (n := (i : Int) + 1) (by omega)]
      have := ihm (i + 1) out (by omega) (by omega) (by omega) (by omega)
      exact_mod_cast this
     | succ u ihu =>
      intro s out hs hs2 hcs ho2
      have hsl2 : s < x.f3[i].f3.length := by omega
      have hd2 := List.drop_eq_getElem_cons hsl2
      rw [cntL_drop hsl2] at hcs ho2
      have hcy := cnt_eq x.f3[i].f3[s]
      have hpl := posKids_len (p ++ [(i : Int), (s : Int)]) 0 x.f3[i].f3[s].f3
      refine Ev.step (fun k => by rw [vinculumref10_all.l1]) ?_
      refine ev_if (fun _ => ?_) fun h => by omega
      refine ev_if (fun _ => ?_) fun h => by omega
      rw [rdT_at _ _ hil, rdT_at _ _ hsl2]
      refine ev_if (fun _ => ?_) fun h => by omega
      refine ev_if (fun _ => ?_) fun h => by omega
      refine ev_bind (Ev.now _) ?_
      refine ev_if (fun _ => ?_) fun h => absurd (show ([] : List Int).length + p.length < 17592186044416 by simp; omega) h
      refine ev_bind (Ev.now _) ?_
      refine ev_bind (Ev.now _) ?_
      refine ev_if (fun _ => ?_) fun h => absurd (show (([] : List Int) ++ p).length + ([(i : Int), (s : Int)] : List Int).length < 17592186044416 by simp; omega) h
      refine ev_bind (ih x.f3[i].f3[s] (by omega) (by omega) (hok.2.2 _ (List.getElem_mem hsl2)) _ (by simp; omega)) ?_
      rw [List.nil_append]
      refine ev_if (fun _ => ?_) fun h => by omega
      rw [wr (n := (s : Int) + 1) (by omega)]
      have := ihu (s + 1) (out ++ posKids (p ++ [(i : Int), (s : Int)]) 0 x.f3[i].f3[s].f3) (by omega) (by omega) (by omega) (by rw [List.length_append]; omega)
      rw [hd2, posSlots, posSlot_eq]
      rw [← List.append_assoc] 
      exact_mod_cast this
    refine Ev.step (fun k => by rw [vinculumref10_all.l0]) ?_
    refine ev_if (fun _ => ?_) fun h => by omega
    refine ev_bind (Ev.now _) ?_
    refine ev_if (fun _ => ?_) fun h => absurd (show ([] : List Int).length + p.length < 17592186044416 by simp; omega) h
    refine ev_bind (Ev.now _) ?_
    refine ev_if (fun _ => ?_) fun h => absurd (show (([] : List Int) ++ p).length < 17592186044416 by simp; omega) h
    refine ev_if (fun _ => ?_) fun h => by omega
    refine ev_bind (Ev.now _) ?_
    refine ev_if (fun h => by omega) fun _ => ?_
    have := slots x.f3[i].f3.length 0 (out ++ [p ++ [(i : Int)]]) rfl (by omega) (by simp; omega) (by simp; omega)
    rw [hd, posKids, posItem_eq, List.nil_append]
    simp only [List.drop_zero, List.append_assoc, List.cons_append, List.nil_append] at this ⊢
    exact_mod_cast this
  refine Ev.step (fun k => by rw [vinculumref10_all.f]) ?_
  have := loop x.f3.length 0 [] rfl (by omega) (by simp; omega) (by simp; omega)
  simpa using this
end Go.Proofs.YtagkhoeidjlahaaDoor.G.Pure
namespace Go.Proofs.YtagkhoeidjlahaaDoor.G.Pure
open Go.Proofs.YtagkhoeidjlahaaDoorW.PrintWords Go.RowKit
set_option linter.unusedVariables false
set_option linter.unusedSimpArgs false
def xsOf (x : S36) : List (List Int) := posKids [] 0 x.f3
def allB (x : S36) : List (List Int) × Int := if validB x = true then (xsOf x, 0) else ([], 1)
theorem xs_le (x : S36) : (xsOf x).length ≤ 2 * cnt x := by
 have := posKids_len [] 0 x.f3
 have e := cnt_eq x
 unfold xsOf; omega
theorem pAll_ev (x : S36) (hx : OkNode x) : Ev (fun k => position_All.f k x.f0 x.f1 x.f2 x.f3) (allB x) := by
 unfold position_All.f allB
 refine Ev.bind (f := fun _ v => if v = true then some (posKids [] 0 x.f3, 0) else some ([], 1)) (nValid_ev x hx) ?_
 exact ev_if (fun h => ev_now (by rw [if_pos h]; rfl)) fun h => ev_now (by rw [if_neg h])
theorem rAll2_ev (x : S36) (hx : OkNode x) (hc : cnt x ≤ 100000) : Ev (fun k => vinculumref10_All.f k x.f0 x.f1 x.f2 x.f3) (allB x) := by
 unfold vinculumref10_All.f allB
 refine ev_bind (rValid_ev x hx (by omega)) ?_
 refine ev_if (fun h => ?_) fun h => ev_now ?_
 ·
  rw [if_pos h]
  exact ev_bind (rAll_ev (cnt x) x (Nat.le_refl _) hc hx [] (by simp; omega)) (Ev.now _)
 ·
  rw [if_neg h]
def idxF (pos : List Int) : List (List Int) → Int → Int × Int
 | [], _ => (0, 2)
 | q :: qs, i => if cmpL q pos = 0 then (i, 0) else idxF pos qs (i + 1)
def idxB (x : S36) (pos : List Int) : Int × Int := if validB x = true then idxF pos (xsOf x) 0 else (0, 1)
theorem rdL_at (l : List (List Int)) (i : Nat) (h : i < l.length) : rd_L5 l i = l[i] := by simp [rd_L5, h]
def Short (xs : List (List Int)) : Prop := ∀ q ∈ xs, q.length ≤ M
mutual
theorem kids_short : ∀ (p : List Int) (i : Int) (l : List S36) (q : List Int), q ∈ posKids p i l → q.length ≤ p.length + 1 + 2 * cntL l
 | p, i, [], q, h => by rw [posKids, List.mem_singleton] at h; subst h; simp
 | p, i, x :: l, q, h => by
  rw [posKids, List.mem_cons, List.mem_append] at h
  rw [cntL]
  rcases h with h | h | h
  ·
   subst h; simp
  ·
   have := item_short p i x q h; omega
  ·
   have := kids_short p (i + 1) l q h; omega
theorem item_short : ∀ (p : List Int) (i : Int) (x : S36) (q : List Int), q ∈ posItem p i x → q.length ≤ p.length + 1 + 2 * cnt x
 | p, i, ⟨_, _, _, l⟩, q, h => by
  rw [posItem] at h
  have := slots_short p i 0 l q h
  rw [cnt]; omega
theorem slots_short : ∀ (p : List Int) (i s : Int) (l : List S36) (q : List Int), q ∈ posSlots p i s l → q.length ≤ p.length + 1 + 2 * cntL l
 | p, i, s, [], q, h => by simp [posSlots] at h
 | p, i, s, y :: l, q, h => by
  rw [posSlots, List.mem_append] at h
  rw [cntL]
  rcases h with h | h
  ·
   have := slot_short (p ++ [i, s]) y q h
   simp only [List.length_append, List.length_cons, List.length_nil] at this
   omega
  ·
   have := slots_short p i (s + 1) l q h; omega
theorem slot_short : ∀ (p : List Int) (y : S36) (q : List Int), q ∈ posSlot p y → q.length + 1 ≤ p.length + 2 * cnt y
 | p, ⟨_, _, _, l⟩, q, h => by
  rw [posSlot] at h
  have := kids_short p 0 l q h
  rw [cnt]; omega
end
theorem xs_short (x : S36) (hc : cnt x ≤ 100000) : Short (xsOf x) := fun q h => by
 have := kids_short [] 0 x.f3 q h
 have e := cnt_eq x
 unfold M
 simp at this
 omega
theorem rIdx_l (xs : List (List Int)) (pos : List Int) (hs : Short xs) (hl : xs.length ≤ 1000000) : ∀ (m i : Nat), xs.length - i = m → Ev (fun k => vinculumref10_Index.l0 k pos xs i) (idxF pos (xs.drop i) i) := by
 intro m
 induction m with
 | zero =>
  intro i hi
  refine Ev.step (fun k => by rw [vinculumref10_Index.l0]) ?_
  refine ev_if (fun h => by omega) fun _ => ev_now ?_
  rw [List.drop_eq_nil_of_le (by omega), idxF]
 | succ m ih =>
  intro i hi
  have hil : i < xs.length := by omega
  refine Ev.step (fun k => by rw [vinculumref10_Index.l0]) ?_
  refine ev_if (fun _ => ?_) fun h => by omega
  refine ev_if (fun _ => ?_) fun h => by omega
  rw [List.drop_eq_getElem_cons hil, idxF, rdL_at _ _ hil]
  refine ev_bind (rCmp_ev _ _ (hs _ (List.getElem_mem hil))) ?_
  refine ev_if (fun h => ev_now ?_) fun h => ?_
  ·
   rw [if_pos h]
  ·
   rw [if_neg h, wr (n := (i : Int) + 1) (by omega)]
   have := ih (i + 1) (by omega)
   exact_mod_cast this
theorem rIndex_ev (x : S36) (hx : OkNode x) (hc : cnt x ≤ 100000) (pos : List Int) : Ev (fun k => vinculumref10_Index.f k x.f0 x.f1 x.f2 x.f3 pos) (idxB x pos) := by
 unfold vinculumref10_Index.f idxB
 refine ev_bind (rAll2_ev x hx hc) ?_
 unfold allB
 have hle := xs_le x
 cases hv : validB x with
 | true =>
  simp only [if_true]
  have := rIdx_l (xsOf x) pos (xs_short x hc) (by omega) (xsOf x).length 0 rfl
  simpa using this
 | false => simp only [Bool.false_eq_true, if_false]; exact ev_if (fun h => by simp at h) fun _ => Ev.now _
def Low (xs : List (List Int)) (pos : List Int) (r : Nat) : Prop := r ≤ xs.length ∧ (∀ t (h : t < xs.length), t < r → cmpL xs[t] pos < 0) ∧ ∀ t (h : t < xs.length), r ≤ t → ¬ cmpL xs[t] pos < 0
theorem bsl_low (xs : List (List Int)) (pos : List Int) (hsr : Srt xs) (hs : Short xs) (hl : xs.length ≤ 1000000) : ∀ (n i j : Nat), j - i ≤ n → i ≤ j → j ≤ xs.length → (∀ t (h : t < xs.length), t < i → cmpL xs[t] pos < 0) → (∀ t (h : t < xs.length), j ≤ t → ¬ cmpL xs[t] pos < 0) →
  ∃ r, Low xs pos r ∧ ∃ K, ∀ k, K ≤ k → ∀ q, n + 1 ≤ q → bsl k xs pos q i j = some (r : Int) := by
 intro n
 induction n with
 | zero =>
  intro i j h1 h2 h3 h4 h5
  obtain rfl : i = j := by omega
  refine ⟨i, ⟨h3, h4, h5⟩, 0, fun k _ q hq => ?_⟩
  obtain ⟨q, rfl⟩ : ∃ q', q = q' + 1 := ⟨q - 1, by omega⟩
  rw [bsl, if_neg (by omega)]
 | succ n ih =>
  intro i j h1 h2 h3 h4 h5
  by_cases hij : i < j
  ·
   have hm : ((i : Int) + (j : Int)) / 2 = (((i + j) / 2 : Nat) : Int) := by omega
   have hml : (i + j) / 2 < xs.length := by omega
   obtain ⟨K0, hK0'⟩ := pCmp_ev xs[(i + j) / 2] pos (hs _ (List.getElem_mem hml))
   have hK0 : ∀ k, K0 ≤ k → position_Compare.f k xs[(i + j) / 2] pos = some (cmpL xs[(i + j) / 2] pos) := hK0'
   by_cases hc : cmpL xs[(i + j) / 2] pos < 0
   ·
    obtain ⟨r, hr, K, hK⟩ := ih ((i + j) / 2 + 1) j (by omega) (by omega) h3 (fun t ht hlt => by
     rcases Nat.lt_or_ge t ((i + j) / 2) with h | h
     ·
      exact cmpL_trans _ _ _ (srt_lt hsr h hml) hc
     ·
      obtain rfl : t = (i + j) / 2 := by omega
      exact hc) h5
    refine ⟨r, hr, max K0 K, fun k hk q hq => ?_⟩
    obtain ⟨q, rfl⟩ : ∃ q', q = q' + 1 := ⟨q - 1, by omega⟩
    rw [bsl, if_pos (by omega), hm, rdL_at _ _ hml, hK0 k (by omega)]
    simp only [Option.bind_some]
    rw [if_pos hc]
    have := hK k (by omega) q (by omega)
    exact_mod_cast this
   ·
    obtain ⟨r, hr, K, hK⟩ := ih i ((i + j) / 2) (by omega) (by omega) (by omega) h4 (fun t ht hlt hneg => by
     rcases Nat.eq_or_lt_of_le hlt with h | h
     ·
      subst h; exact hc hneg
     ·
      exact hc (cmpL_trans _ _ _ (srt_lt hsr h ht) hneg))
    refine ⟨r, hr, max K0 K, fun k hk q hq => ?_⟩
    obtain ⟨q, rfl⟩ : ∃ q', q = q' + 1 := ⟨q - 1, by omega⟩
    rw [bsl, if_pos (by omega), hm, rdL_at _ _ hml, hK0 k (by omega)]
    simp only [Option.bind_some]
    rw [if_neg hc]
    exact hK k (by omega) q (by omega)
  ·
   obtain rfl : i = j := by omega
   refine ⟨i, ⟨h3, h4, h5⟩, 0, fun k _ q hq => ?_⟩
   obtain ⟨q, rfl⟩ : ∃ q', q = q' + 1 := ⟨q - 1, by omega⟩
   rw [bsl, if_neg (by omega)]
theorem idxF_none (pos : List Int) : ∀ (l : List (List Int)) (i : Int), (∀ q ∈ l, cmpL q pos ≠ 0) → idxF pos l i = (0, 2)
 | [], i, _ => rfl
 | q :: l, i, h => by rw [idxF, if_neg (h q (by simp))]; exact idxF_none pos l (i + 1) fun x hx => h x (by simp [hx])
theorem idxF_at (pos : List Int) : ∀ (l : List (List Int)) (i : Int) (r : Nat) (h : r < l.length), (∀ t (ht : t < r), cmpL (l[t]'(by omega)) pos ≠ 0) → cmpL l[r] pos = 0 → idxF pos l i = (i + r, 0)
 | q :: l, i, 0, h, _, h2 => by rw [idxF, if_pos (show cmpL q pos = 0 from h2)]; simp
 | q :: l, i, r + 1, h, h1, h2 => by
  rw [idxF, if_neg (show ¬ cmpL q pos = 0 from h1 0 (by omega))]
  rw [idxF_at pos l (i + 1) r (by simpa using h) (fun t ht => h1 (t + 1) (by omega)) h2]
  push_cast
  simp; omega
theorem low_idx (xs : List (List Int)) (pos : List Int) (hsr : Srt xs) (r : Nat) (h : Low xs pos r) : idxF pos xs 0 = if hr : r < xs.length then (if cmpL xs[r] pos = 0 then ((r : Int), 0) else (0, 2)) else (0, 2) := by
 obtain ⟨h1, h2, h3⟩ := h
 by_cases hr : r < xs.length
 ·
  rw [dif_pos hr]
  by_cases hc : cmpL xs[r] pos = 0
  ·
   rw [if_pos hc, idxF_at pos xs 0 r hr (fun t ht => by have := h2 t (by omega) ht; omega) hc]; simp
  ·
   rw [if_neg hc]
   refine idxF_none pos xs 0 fun q hq => ?_
   obtain ⟨t, ht, rfl⟩ := List.getElem_of_mem hq
   rcases Nat.lt_trichotomy t r with h | h | h
   ·
    have := h2 t ht h; omega
   ·
    subst h; exact hc
   ·
    have a1 := h3 r hr (Nat.le_refl _)
    have a2 := cmpL_neg xs[r] pos
    have a3 := srt_lt hsr h ht
    intro he
    have := cmpL_zero he
    rw [this] at a3
    exact a1 a3
 ·
  rw [dif_neg hr]
  refine idxF_none pos xs 0 fun q hq => ?_
  obtain ⟨t, ht, rfl⟩ := List.getElem_of_mem hq
  have := h2 t ht (by omega); omega
theorem bsf_ev (xs : List (List Int)) (pos : List Int) (hsr : Srt xs) (hs : Short xs) (hl : xs.length ≤ 1000000) : ∃ (i : Int) (b : Bool), Ev (fun k => bsf k xs pos) (i, b) ∧ idxF pos xs 0 = if b = true then (i, 0) else (0, 2) := by
 obtain ⟨r, hr, K, hK⟩ := bsl_low xs pos hsr hs hl xs.length 0 xs.length (by omega) (by omega) (by omega) (fun t h h' => by omega) (fun t h h' => by omega)
 have hlow := low_idx xs pos hsr r hr
 have e1 : Ev (fun k => bsl k xs pos k 0 (xs.length : Int)) (r : Int) := ⟨max K (xs.length + 1), fun k hk => hK k (by omega) k (by omega)⟩
 unfold bsf
 by_cases hrl : r < xs.length
 ·
  rw [dif_pos hrl] at hlow
  refine ⟨r, cmpL xs[r] pos == 0, ?_, ?_⟩
  ·
   refine ev_if (fun _ => ?_) fun h => by omega
   refine Ev.bind (f := fun k i => if i < (xs.length : Int) then (position_Compare.f k (rd_L5 xs i) pos).bind fun c => some (i, c == 0) else some (i, false)) e1 ?_
   refine ev_if (fun _ => ?_) fun h => by omega
   rw [rdL_at _ _ hrl]
   exact Ev.bind (f := fun _ c => some ((r : Int), c == 0)) (pCmp_ev _ _ (hs _ (List.getElem_mem hrl))) (Ev.now _)
  ·
   rw [hlow]
   by_cases hc : cmpL xs[r] pos = 0
   ·
    rw [if_pos hc, if_pos (by simpa using hc)]
   ·
    rw [if_neg hc, if_neg (by simpa using hc)]
 ·
  rw [dif_neg hrl] at hlow
  refine ⟨r, false, ?_, by rw [hlow]; rfl⟩
  refine ev_if (fun _ => ?_) fun h => by omega
  refine Ev.bind (f := fun k i => if i < (xs.length : Int) then (position_Compare.f k (rd_L5 xs i) pos).bind fun c => some (i, c == 0) else some (i, false)) e1 ?_
  exact ev_if (fun h => by omega) fun _ => Ev.now _
theorem pIndex_ev (x : S36) (hx : OkNode x) (hc : cnt x ≤ 100000) (pos : List Int) : Ev (fun k => position_Index.f k x.f0 x.f1 x.f2 x.f3 pos) (idxB x pos) := by
 unfold position_Index.f idxB
 refine Ev.bind (f := fun k b => if b.2 = 0 then (bsf k b.1 pos).bind fun r => if r.2 = true then some (r.1, 0) else some (0, 2) else some (0, b.2)) (pAll_ev x hx) ?_
 unfold allB
 have hle := xs_le x
 cases hv : validB x with
 | true =>
  simp only [if_true]
  obtain ⟨i, b, e1, e2⟩ := bsf_ev (xsOf x) pos (kids_srt _ _ _) (xs_short x hc) (by omega)
  rw [e2]
  refine Ev.bind (f := fun _ (r : Int × Bool) => if r.2 = true then some (r.1, (0 : Int)) else some (0, 2)) e1 ?_
  exact ev_if (fun h => ev_now (by simp only at h; rw [if_pos h])) fun h => ev_now (by simp only at h; rw [if_neg h])
 | false => simp only [Bool.false_eq_true, if_false]; exact ev_if (fun h => by simp at h) fun _ => Ev.now _
theorem pValid_ev (x : S36) (hx : OkNode x) (hc : cnt x ≤ 100000) (pos : List Int) : Ev (fun k => position_Valid.f k x.f0 x.f1 x.f2 x.f3 pos) ((idxB x pos).2 == 0) := by
 unfold position_Valid.f
 exact ev_bind (pIndex_ev x hx hc pos) (Ev.now _)
theorem rPValid_ev (x : S36) (hx : OkNode x) (hc : cnt x ≤ 100000) (pos : List Int) : Ev (fun k => vinculumref10_Valid.f k x.f0 x.f1 x.f2 x.f3 pos) ((idxB x pos).2 == 0) := by
 unfold vinculumref10_Valid.f
 exact ev_bind (rIndex_ev x hx hc pos) (Ev.now _)
theorem okI_small (n : Int) (h : 0 ≤ n ∧ n < 100) : OkI .i64 n := by
 have := wrap64_wf n
 rwa [wr (by omega)] at this
theorem ok_leaf (k : Int) (s : ByteArray) (hk : 0 ≤ k ∧ k < 100) (hs : s.size ≤ 100) : OkNode ⟨k, s, 0, []⟩ := OkNode.mk _ (okI_small k hk) (by unfold OkS; simp; omega) (okI_small 0 (by omega)) (by simp) (fun y h => by simp at h)
end Go.Proofs.YtagkhoeidjlahaaDoor.G.Pure
namespace Go.Proofs.YtagkhoeidjlahaaDoor.G
open Go.RowKit Go.Proofs.YtagkhoeidjlahaaDoorW.PrintWords Go.Proofs.YtagkhoeidjlahaaDoorW.PrintLast Go.Proofs.YtagkhoeidjlahaaDoorW.PrintMore
attribute [local go_sem] max2_int min2_int max_two min_two max_three min_three max_four min_four
set_option linter.unusedVariables false
set_option linter.unusedSimpArgs false
def slices_Equal_int_int.l0 : Nat → List Int → List Int → Int → Int → Option (Bool)
 | 0, _, _, _, _ => none
 | k + 1, x0, x1, x12, x13 => if x13 < x12 then (if 0 ≤ x13 then (if x13 < (x0.length : Int) then (if x13 < (x1.length : Int) then (if (rd x0 x13) = (rd x1 x13) then (slices_Equal_int_int.l0 k x0 x1 x12 (wrap64 (x13 + 1))) else (some false)) else (none)) else (none)) else (none)) else (some true)
def slices_Equal_int_int.f (k : Nat) (l0 : List Int) (l1 : List Int) : Option (Bool) := if (l0.length : Int) = (l1.length : Int) then (slices_Equal_int_int.l0 k l0 l1 (l0.length : Int) 0) else (some false)
set_option maxHeartbeats 8000000 in
set_option maxRecDepth 100000 in
theorem slices_Equal_int_int.calls (k : Nat) (A0 : Option Addr) (c0 : Nat) (l0 : List Int) (A1 : Option Addr) (c1 : Nat) (l1 : List Int) (r : Bool) (w : World) (hr0 : Kd.C (Kd.int .i64) w A0 l0.length l0) (hc0 : l0.length ≤ c0) (hr1 : Kd.C (Kd.int .i64) w A1 l1.length l1) (hc1 : l1.length ≤ c1) (h : slices_Equal_int_int.f k l0 l1 = some r) :
  Calls Tryd.prog 78 #[.slice A0 l0.length c0, .slice A1 l1.length c1] w fun e w' => e = .returned (.bool r) ∧ Drawn0 w w' := by
 have HR0 := Aside0.mk hr0
 have HC0 := Aside0.mk hc0
 clear hr0 hc0
 have HR1 := Aside0.mk hr1
 have HC1 := Aside0.mk hc1
 clear hr1 hc1
 have H : (if (l0.length : Int) = (l1.length : Int) then (slices_Equal_int_int.l0 k l0 l1 (l0.length : Int) 0) else (some false)) = some r := h
 clear h
 by_cases c3 : (l0.length : Int) = (l1.length : Int)
 ·
  rw [if_pos c3] at H
  have c3b0 : ((l0.length : Int) == (l1.length : Int)) = true := beq_iff_eq.mpr c3
  have c3b1 : ((l0.length : Int) != (l1.length : Int)) = false := bne_eq_false_iff_eq.mpr c3
  have c3b2 : (l0.length == l1.length) = true := by first | simpa using c3 | (simp at c3 ⊢; omega)
  clear c3
  have H' := Aside0.mk H
  clear H
  go_enter Tryd.func78, Tryd.ntmps78
  go_wp2
  repeat (go_quiet (fail); try go_wp2)
  go_loopg [13] k (fun kq v13 w' => ∃ (x13_1 : Int), v13 = .int .i64 x13_1 ∧ Aside0 (slices_Equal_int_int.l0 kq l0 l1 (l0.length : Int) x13_1 = some r) ∧ Aside0 (kq ≤ k) ∧ Drawn0 w w')
  case atStart => exact ⟨(0), (by first | rfl | (simp; done) | (simp [*]; done)), H', ⟨Nat.le_refl _⟩, by repeat (first | exact Drawn0.refl _ | apply Drawn0.step)⟩
  case round =>
   clear H'
   try clear c1
   try clear p2
   try clear c3
   try clear c3b0
   try clear c3b1
   try clear c3b2
   obtain ⟨x13_1, rfl, HA, HK1, ⟨m1, rfl⟩⟩ := hrel
   cases gk with
   | zero => exact absurd HA.out (by simp [slices_Equal_int_int.l0])
   | succ k1 =>
    have H := HA.out
    clear HA
    simp only [slices_Equal_int_int.l0] at H
    by_cases c4 : x13_1 < (l0.length : Int)
    ·
     rw [if_pos c4] at H
     have c4b0 : decide (x13_1 < (l0.length : Int)) = true := decide_eq_true c4
     clear c4
     by_cases c5 : 0 ≤ x13_1
     ·
      rw [if_pos c5] at H
      have c5b0 : decide (0 ≤ x13_1) = true := decide_eq_true c5
      clear c5
      by_cases c6 : x13_1 < (l0.length : Int)
      ·
       rw [if_pos c6] at H
       have c6b0 : decide (x13_1 < (l0.length : Int)) = true := decide_eq_true c6
       clear c6
       by_cases c7 : x13_1 < (l1.length : Int)
       ·
        rw [if_pos c7] at H
        have c7b0 : decide (x13_1 < (l1.length : Int)) = true := decide_eq_true c7
        clear c7
        by_cases c8 : (rd l0 x13_1) = (rd l1 x13_1)
        ·
         rw [if_pos c8] at H
         have c8b0 : ((rd l0 x13_1) == (rd l1 x13_1)) = true := beq_iff_eq.mpr c8
         have c8b1 : ((rd l0 x13_1) != (rd l1 x13_1)) = false := bne_eq_false_iff_eq.mpr c8
         clear c8
         have H' := Aside0.mk H
         clear H
         have p647 : 0 ≤ (x13_1 : Int) := of_decide_eq_true (by first | (with_reducible assumption) | assumption)
         have q647 : x13_1 < (l0.length : Int) := of_decide_eq_true (by first | (with_reducible assumption) | assumption)
         obtain ⟨ad647, e647, hx647_0⟩ := Kd.at_int HR0.out x13_1 p647 q647
         cases e647
         replace p647 := eq_true p647
         replace q647 := eq_true q647
         have p648 : 0 ≤ (x13_1 : Int) := of_decide_eq_true (by first | (with_reducible assumption) | assumption)
         have q648 : x13_1 < (l1.length : Int) := of_decide_eq_true (by first | (with_reducible assumption) | assumption)
         obtain ⟨ad648, e648, hx648_0⟩ := Kd.at_int HR1.out x13_1 p648 q648
         cases e648
         replace p648 := eq_true p648
         replace q648 := eq_true q648
         go_wp2
         repeat (go_quiet (fail); try go_wp2)
         go_roundg k1
         case measure => have := HK1.out; omega
         case rel => exact ⟨(wrap64 (x13_1 + 1)), (by first | rfl | (simp; done) | (simp [*]; done)), H', ⟨by have := HK1.out; omega⟩, by repeat (first | exact Drawn0.refl _ | apply Drawn0.step)⟩
        ·
         rw [if_neg c8] at H
         have c8b0 : ((rd l0 x13_1) == (rd l1 x13_1)) = false := beq_eq_false_iff_ne.mpr c8
         have c8b1 : ((rd l0 x13_1) != (rd l1 x13_1)) = true := bne_iff_ne.mpr c8
         obtain rfl := Option.some.inj H
         have p647 : 0 ≤ (x13_1 : Int) := of_decide_eq_true (by first | (with_reducible assumption) | assumption)
         have q647 : x13_1 < (l0.length : Int) := of_decide_eq_true (by first | (with_reducible assumption) | assumption)
         obtain ⟨ad647, e647, hx647_0⟩ := Kd.at_int HR0.out x13_1 p647 q647
         cases e647
         replace p647 := eq_true p647
         replace q647 := eq_true q647
         have p648 : 0 ≤ (x13_1 : Int) := of_decide_eq_true (by first | (with_reducible assumption) | assumption)
         have q648 : x13_1 < (l1.length : Int) := of_decide_eq_true (by first | (with_reducible assumption) | assumption)
         obtain ⟨ad648, e648, hx648_0⟩ := Kd.at_int HR1.out x13_1 p648 q648
         cases e648
         replace p648 := eq_true p648
         replace q648 := eq_true q648
         go_wp2
         repeat (go_quiet (fail); try go_wp2)
         go_ret
         exact ⟨by first | rfl | (simp; done) | (simp [*]; done), by repeat (first | exact Drawn0.refl _ | apply Drawn0.step)⟩
       ·
        rw [if_neg c7] at H
        exact absurd H (by simp)
      ·
       rw [if_neg c6] at H
       exact absurd H (by simp)
     ·
      rw [if_neg c5] at H
      exact absurd H (by simp)
    ·
     rw [if_neg c4] at H
     have c4b0 : decide (x13_1 < (l0.length : Int)) = false := decide_eq_false c4
     clear c4
     obtain rfl := Option.some.inj H
     go_wp2
     repeat (go_quiet (fail); try go_wp2)
     go_ret
     exact ⟨by first | rfl | (simp; done) | (simp [*]; done), by repeat (first | exact Drawn0.refl _ | apply Drawn0.step)⟩
 ·
  rw [if_neg c3] at H
  have c3b0 : ((l0.length : Int) == (l1.length : Int)) = false := beq_eq_false_iff_ne.mpr c3
  have c3b1 : ((l0.length : Int) != (l1.length : Int)) = true := bne_iff_ne.mpr c3
  have c3b2 : (l0.length == l1.length) = false := by first | simpa using c3 | (simp at c3 ⊢; omega)
  obtain rfl := Option.some.inj H
  go_enter Tryd.func78, Tryd.ntmps78
  go_wp2
  repeat (go_quiet (fail); try go_wp2)
  go_ret
  exact ⟨by first | rfl | (simp; done) | (simp [*]; done), by repeat (first | exact Drawn0.refl _ | apply Drawn0.step)⟩
end Go.Proofs.YtagkhoeidjlahaaDoor.G
