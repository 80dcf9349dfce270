-- Written by pack2.py: this session's texts and the printer's, pruned.
import Derived.Test.YtagkhoeidjlahaaDoorCSe20
import Derived.Test.YtagkhoeidjlahaaDoorCSe2
namespace Go.Proofs.YtagkhoeidjlahaaDoor.G.Pure
open Go.Proofs.YtagkhoeidjlahaaDoorW.PrintWords Go.RowKit
set_option linter.unusedVariables false
set_option linter.unusedSimpArgs false
mutual
def formB : S36 → Bool
 | ⟨k, s, c, l⟩ => shp k s c l.length && formL (k == 1) l
def formL (row : Bool) : List S36 → Bool
 | [] => true
 | y :: l => !((y.f0 == 1) == row) && formB y && formL row l
end
mutual
def dep : S36 → Nat
 | ⟨_, _, _, l⟩ => 1 + depL l
def depL : List S36 → Nat
 | [] => 0
 | y :: l => max (dep y) (depL l)
end
theorem formB_eq (x : S36) : formB x = (shp x.f0 x.f1 x.f2 x.f3.length && formL (x.f0 == 1) x.f3) := by cases x; simp [formB]
theorem dep_eq (x : S36) : dep x = 1 + depL x.f3 := by cases x; simp [dep]
theorem rdT_at (l : List S36) (i : Nat) (h : i < l.length) : rd_T36 l i = l[i] := by simp [rd_T36, h]
theorem ok_open {x : S36} (h : OkNode x) : x.f1.size ≤ M ∧ x.f3.length ≤ M ∧ ∀ y ∈ x.f3, OkNode y := by
 cases h with
 | mk x h0 h1 h2 hl h3 => exact ⟨h1, hl, h3⟩
theorem cnt_pos (x : S36) : 1 ≤ cnt x := by rw [cnt_eq]; omega
theorem cntL_drop {l : List S36} {i : Nat} (h : i < l.length) : cntL (l.drop i) = cnt l[i] + cntL (l.drop (i + 1)) := by
 rw [List.drop_eq_getElem_cons h, cntL]
theorem form_ev : ∀ (n : Nat) (x : S36), cnt x ≤ n → OkNode x → Ev (fun k => vinculumref09_form.f k x.f0 x.f1 x.f2 x.f3) (formB x) := by
 intro n
 induction n with
 | zero => intro x h; have := cnt_pos x; omega
 | succ n ih =>
  intro x hn hx
  obtain ⟨h1, h2, h3⟩ := ok_open hx
  unfold M at h2
  rw [cnt_eq] at hn
  have loop : ∀ (m i : Nat), x.f3.length - i = m → cntL (x.f3.drop i) ≤ n → Ev (fun k => vinculumref09_form.l0 k i x.f0 x.f1 x.f2 x.f3) (formL (x.f0 == 1) (x.f3.drop i)) := by
   intro m
   induction m with
   | zero =>
    intro i hi _
    refine Ev.step (fun k => by rw [vinculumref09_form.l0]) ?_
    refine ev_if (fun h => by omega) fun _ => ev_now ?_
    rw [List.drop_eq_nil_of_le (by omega), formL]
   | succ m ihm =>
    intro i hi hc
    have hil : i < x.f3.length := by omega
    rw [cntL_drop hil] at hc
    refine Ev.step (fun k => by rw [vinculumref09_form.l0]) ?_
    refine ev_if (fun _ => ?_) fun h => by omega
    refine ev_if (fun _ => ?_) fun h => by omega
    rw [List.drop_eq_getElem_cons hil, formL, rdT_at _ _ hil]
    refine ev_if (fun h => ev_now ?_) fun h => ?_
    ·
     rw [h]; rfl
    ·
     rw [Bool.not_eq_true] at h
     rw [h]
     refine ev_bind (ih x.f3[i] (by omega) (h3 _ (List.getElem_mem hil))) ?_
     refine ev_if (fun h4 => ?_) fun h4 => ev_now ?_
     ·
      rw [h4, wr (n := (i : Int) + 1) (by omega)]
      have := ihm (i + 1) (by omega) (by omega)
      simpa using this
     ·
      rw [Bool.not_eq_true] at h4; rw [h4]; rfl
  refine Ev.step (fun k => by rw [vinculumref09_form.f]) ?_
  rw [formB_eq, ← shp_eq]
  have j0t : Ev (fun k => vinculumref09_form.j0 k true x.f0 x.f1 x.f2 x.f3) false := Ev.step (fun k => by rw [vinculumref09_form.j0]) (ev_if (fun _ => ev_now rfl) fun h => absurd rfl h)
  refine ev_bind (text_ev x.f0 x.f1 x.f2 x.f3 h1) ?_
  refine ev_if (fun h => ?_) fun h => ?_
  ·
   rw [h, Bool.true_and]
   refine ev_bind (kids_ev x.f0 x.f1 x.f2 x.f3) ?_
   cases hk : kidsB x.f0 x.f2 x.f3.length with
   | false => simpa using j0t
   | true =>
    refine Ev.step (fun k => by rw [vinculumref09_form.j0]) ?_
    refine ev_if (fun h => by cases h) fun _ => ?_
    have := loop x.f3.length 0 rfl (by simp; omega)
    simpa using this
  ·
   rw [Bool.not_eq_true] at h; rw [h]; simpa using j0t
theorem count_ev : ∀ (n : Nat) (x : S36), cnt x ≤ n → n ≤ 1000000 → OkNode x → Ev (fun k => vinculumref09_Count.f k x.f0 x.f1 x.f2 x.f3) (cnt x : Int) := by
 intro n
 induction n with
 | zero => intro x h; have := cnt_pos x; omega
 | succ n ih =>
  intro x hn hM hx
  obtain ⟨h1, h2, h3⟩ := ok_open hx
  unfold M at h2
  rw [cnt_eq] at hn
  have loop : ∀ (m i : Nat) (a : Nat), x.f3.length - i = m → cntL (x.f3.drop i) ≤ n → a + cntL (x.f3.drop i) ≤ 1000000 → Ev (fun k => vinculumref09_Count.l0 k a i x.f0 x.f1 x.f2 x.f3) ((a + cntL (x.f3.drop i) : Nat) : Int) := by
   intro m
   induction m with
   | zero =>
    intro i a hi _ _
    refine Ev.step (fun k => by rw [vinculumref09_Count.l0]) ?_
    refine ev_if (fun h => by omega) fun _ => ev_now ?_
    rw [List.drop_eq_nil_of_le (by omega), cntL]; rfl
   | succ m ihm =>
    intro i a hi hc ha
    have hil : i < x.f3.length := by omega
    rw [cntL_drop hil] at hc ha ⊢
    refine Ev.step (fun k => by rw [vinculumref09_Count.l0]) ?_
    refine ev_if (fun _ => ?_) fun h => by omega
    refine ev_if (fun _ => ?_) fun h => by omega
    rw [rdT_at _ _ hil]
    refine ev_bind (ih x.f3[i] (by omega) (by omega) (h3 _ (List.getElem_mem hil))) ?_
    rw [wr (n := (i : Int) + 1) (by omega), wr (n := (a : Int) + (cnt x.f3[i] : Int)) (by omega)]
    have := ihm (i + 1) (a + cnt x.f3[i]) (by omega) (by omega) (by omega)
    rw [← Nat.add_assoc]
    exact_mod_cast this
  refine Ev.step (fun k => by rw [vinculumref09_Count.f]) ?_
  have := loop x.f3.length 0 1 rfl (by simp; omega) (by simp; omega)
  rw [cnt_eq]
  simpa using this
theorem depth_ev : ∀ (n : Nat) (x : S36), cnt x ≤ n → n ≤ 1000000 → OkNode x → Ev (fun k => vinculumref09_Depth.f k x.f0 x.f1 x.f2 x.f3) (dep x : Int) ∧ dep x ≤ cnt x := by
 intro n
 induction n with
 | zero => intro x h; have := cnt_pos x; omega
 | succ n ih =>
  intro x hn hM hx
  obtain ⟨h1, h2, h3⟩ := ok_open hx
  unfold M at h2
  rw [cnt_eq] at hn
  have loop : ∀ (m i : Nat) (a : Nat), x.f3.length - i = m → cntL (x.f3.drop i) ≤ n → a ≤ 1000000 → Ev (fun k => vinculumref09_Depth.l0 k a i x.f0 x.f1 x.f2 x.f3) ((max a (depL (x.f3.drop i)) + 1 : Nat) : Int) ∧ depL (x.f3.drop i) ≤ cntL (x.f3.drop i) := by
   intro m
   induction m with
   | zero =>
    intro i a hi _ ha
    rw [List.drop_eq_nil_of_le (by omega)]
    refine ⟨Ev.step (fun k => by rw [vinculumref09_Depth.l0]) ?_, by simp [depL]⟩
    refine ev_if (fun h => by omega) fun _ => ev_now ?_
    rw [wr (n := (a : Int) + 1) (by omega), depL]
    simp
   | succ m ihm =>
    intro i a hi hc ha
    have hil : i < x.f3.length := by omega
    have hd := List.drop_eq_getElem_cons hil
    rw [cntL_drop hil] at hc
    obtain ⟨e1, e2⟩ := ih x.f3[i] (by omega) (by omega) (h3 _ (List.getElem_mem hil))
    obtain ⟨f1, f2⟩ := ihm (i + 1) (max a (dep x.f3[i])) (by omega) (by omega) (by omega)
    refine ⟨Ev.step (fun k => by rw [vinculumref09_Depth.l0]) ?_, ?_⟩
    ·
     refine ev_if (fun _ => ?_) fun h => by omega
     refine ev_if (fun _ => ?_) fun h => by omega
     rw [rdT_at _ _ hil]
     refine ev_bind e1 ?_
     rw [wr (n := (i : Int) + 1) (by omega), hd, depL, ← Nat.max_assoc]
     have hm : mx (a : Int) (dep x.f3[i] : Int) = ((max a (dep x.f3[i]) : Nat) : Int) := by unfold mx; omega
     rw [hm]
     exact_mod_cast f1
    ·
     rw [cntL_drop hil, hd, depL]; omega
  obtain ⟨l1, l2⟩ := loop x.f3.length 0 0 rfl (by simp; omega) (by omega)
  refine ⟨Ev.step (fun k => by rw [vinculumref09_Depth.f]) ?_, ?_⟩
  ·
   rw [dep_eq, Nat.add_comm]
   simpa using l1
  ·
   rw [dep_eq, cnt_eq]
   simp only [List.drop_zero] at l2
   omega
mutual
def lft : S36 → Int → Int
 | ⟨_, _, _, l⟩, m => lftL l (m - 1)
def lftL : List S36 → Int → Int
 | [], m => m
 | y :: l, m => if m ≥ 0 then lftL l (lft y m) else m
end
theorem lft_eq (x : S36) (m : Int) : lft x m = lftL x.f3 (m - 1) := by cases x; simp [lft]
theorem lft_spec : ∀ (n : Nat) (x : S36), cnt x ≤ n → ∀ m : Int, 0 ≤ m → ((cnt x : Int) ≤ m → lft x m = m - cnt x) ∧ (¬ (cnt x : Int) ≤ m → lft x m < 0) ∧ -1 ≤ lft x m ∧ lft x m ≤ m := by
 intro n
 induction n with
 | zero => intro x h; have := cnt_pos x; omega
 | succ n ih =>
  intro x hn m hm
  rw [cnt_eq] at hn ⊢
  have loop : ∀ (l : List S36) (q : Int), cntL l ≤ n → -1 ≤ q → (((cntL l : Int) ≤ q ∧ 0 ≤ q) → lftL l q = q - cntL l) ∧ (¬ ((cntL l : Int) ≤ q ∧ 0 ≤ q) → lftL l q < 0) ∧ -1 ≤ lftL l q ∧ lftL l q ≤ q := by
   intro l
   induction l with
   | nil => intro q _ hq; simp only [lftL, cntL]; refine ⟨fun h => by simp, fun h => by simp at h; omega, hq, by omega⟩
   | cons y l ihl =>
    intro q hc hq
    rw [cntL] at hc ⊢
    rw [lftL]
    by_cases h0 : q ≥ 0
    ·
     rw [if_pos h0]
     obtain ⟨a1, a2, a3, a4⟩ := ih y (by omega) q h0
     obtain ⟨b1, b2, b3, b4⟩ := ihl (lft y q) (by omega) a3
     refine ⟨fun h => ?_, fun h => ?_, b3, by omega⟩
     ·
      have e := a1 (by omega)
      rw [b1 ⟨by omega, by omega⟩, e]; push_cast; omega
     ·
      by_cases hy : (cnt y : Int) ≤ q
      ·
       have e := a1 hy
       refine b2 fun h2 => h ⟨?_, h0⟩
       push_cast
       omega
      ·
       have := a2 hy; omega
    ·
     rw [if_neg h0]
     refine ⟨fun h => by omega, fun h => by omega, hq, by omega⟩
  rw [lft_eq]
  obtain ⟨a1, a2, a3, a4⟩ := loop x.f3 (m - 1) (by omega) (by omega)
  refine ⟨fun h => ?_, fun h => ?_, a3, by omega⟩
  ·
   rw [a1 ⟨by omega, by omega⟩]; push_cast; omega
  ·
   exact a2 fun h2 => h (by push_cast; omega)
theorem left_ev : ∀ (n : Nat) (x : S36), cnt x ≤ n → OkNode x → ∀ m : Int, 0 ≤ m → m ≤ 1000000 → Ev (fun k => vinculumref09_left.f k x.f0 x.f1 x.f2 x.f3 m) (lft x m) := by
 intro n
 induction n with
 | zero => intro x h; have := cnt_pos x; omega
 | succ n ih =>
  intro x hn hx m hm0 hm
  obtain ⟨h1, h2, h3⟩ := ok_open hx
  unfold M at h2
  rw [cnt_eq] at hn
  have loop : ∀ (q i : Nat) (a : Int), x.f3.length - i = q → cntL (x.f3.drop i) ≤ n → -1 ≤ a → a ≤ 1000000 → Ev (fun k => vinculumref09_left.l0 k a i x.f0 x.f1 x.f2 x.f3) (lftL (x.f3.drop i) a) := by
   intro q
   induction q with
   | zero =>
    intro i a hi _ _ _
    refine Ev.step (fun k => by rw [vinculumref09_left.l0]) ?_
    refine ev_if (fun h => by omega) fun _ => ev_now ?_
    rw [List.drop_eq_nil_of_le (by omega), lftL]
   | succ q ihq =>
    intro i a hi hc ha ha2
    have hil : i < x.f3.length := by omega
    rw [cntL_drop hil] at hc
    refine Ev.step (fun k => by rw [vinculumref09_left.l0]) ?_
    refine ev_if (fun _ => ?_) fun h => by omega
    rw [List.drop_eq_getElem_cons hil, lftL]
    refine ev_if (fun h => ?_) fun h => ev_now ?_
    ·
     refine ev_if (fun _ => ?_) fun h => by omega
     rw [if_pos h, rdT_at _ _ hil]
     refine ev_bind (ih x.f3[i] (by omega) (h3 _ (List.getElem_mem hil)) a h ha2) ?_
     rw [wr (n := (i : Int) + 1) (by omega)]
     obtain ⟨_, _, s3, s4⟩ := lft_spec n x.f3[i] (by omega) a h
     have := ihq (i + 1) (lft x.f3[i] a) (by omega) (by omega) s3 (by omega)
     exact_mod_cast this
    ·
     rw [if_neg h]
  refine Ev.step (fun k => by rw [vinculumref09_left.f]) ?_
  rw [lft_eq, wr (n := m - 1) (by omega)]
  have := loop x.f3.length 0 (m - 1) rfl (by simp; omega) (by omega) (by omega)
  simpa using this
theorem few_ev (x : S36) (hx : OkNode x) (m : Int) (h0 : 0 ≤ m) (h1 : m ≤ 1000000) : Ev (fun k => vinculumref09_Few.f k x.f0 x.f1 x.f2 x.f3 m) (decide ((cnt x : Int) ≤ m)) := by
 unfold vinculumref09_Few.f
 refine ev_bind (left_ev (cnt x) x (Nat.le_refl _) hx m h0 h1) (ev_now ?_)
 obtain ⟨a1, a2, _, _⟩ := lft_spec (cnt x) x (Nat.le_refl _) m h0
 rw [decide_eq_decide]
 by_cases h : (cnt x : Int) ≤ m
 ·
  rw [a1 h]; omega
 ·
  have := a2 h; omega
def validB (x : S36) : Bool := x.f0 == 1 && formB x && decide (cnt x ≤ 1000) && decide (dep x ≤ 24)
theorem rValid_ev (x : S36) (hx : OkNode x) (hc : cnt x ≤ 1000000) : Ev (fun k => vinculumref09_Valid.f k x.f0 x.f1 x.f2 x.f3) (validB x) := by
 unfold vinculumref09_Valid.f validB
 refine ev_if (fun h => ?_) fun h => ev_now ?_
 ·
  rw [h]
  refine ev_bind (by have := form_ev (cnt x) x (Nat.le_refl _) hx; rw [h] at this; exact this) ?_
  refine ev_if (fun h2 => ?_) fun h2 => ev_now ?_
  ·
   rw [h2]
   refine ev_bind (by have := count_ev (cnt x) x (Nat.le_refl _) hc hx; rw [h] at this; exact this) ?_
   refine ev_if (fun h3 => ?_) fun h3 => ev_now ?_
   ·
    rw [decide_eq_true (show cnt x ≤ 1000 by omega)]
    refine ev_bind (by have := (depth_ev (cnt x) x (Nat.le_refl _) hc hx).1; rw [h] at this; exact this) (ev_now ?_)
    have e : decide ((dep x : Int) ≤ 24) = decide (dep x ≤ 24) := by rw [decide_eq_decide]; omega
    rw [e]; simp
   ·
    rw [decide_eq_false (show ¬ cnt x ≤ 1000 by omega)]; simp
  ·
   rw [Bool.not_eq_true] at h2; rw [h2]; simp
 ·
  rw [beq_eq_false_iff_ne.2 h]; rfl
theorem chk_ev : ∀ (d : Nat) (x : S36) (l : Int), OkNode x → 0 ≤ l → l ≤ 1000000 → ∃ r, Ev (fun k => chk k d l x) r ∧ (r.1 = true → formB x = true ∧ (cnt x : Int) ≤ l ∧ dep x ≤ d ∧ r.2 = l - cnt x) ∧ (formB x = true ∧ (cnt x : Int) ≤ l ∧ dep x ≤ d → r.1 = true) := by
 intro d
 induction d with
 | zero =>
  intro x l hx h0 h1
  refine ⟨(false, l - 1), Ev.now _, fun h => by simp at h, fun h => ?_⟩
  have := dep_eq x
  omega
 | succ d ih =>
  intro x l hx h0 h1
  obtain ⟨o1, o2, o3⟩ := ok_open hx
  have loop : ∀ (ys : List S36) (q : Int), (∀ y ∈ ys, OkNode y) → 0 ≤ q → q ≤ 1000000 → ∃ r, Ev (fun k => chkL (chk k d) (x.f0 == 1) ys q) r ∧ (r.1 = true → formL (x.f0 == 1) ys = true ∧ (cntL ys : Int) ≤ q ∧ depL ys ≤ d ∧ r.2 = q - cntL ys) ∧ (formL (x.f0 == 1) ys = true ∧ (cntL ys : Int) ≤ q ∧ depL ys ≤ d → r.1 = true) := by
   intro ys
   induction ys with
   | nil =>
    intro q _ hq hq1
    refine ⟨(true, q), ?_, fun _ => ⟨rfl, by simp [cntL]; omega, by simp [depL], by simp [cntL]⟩, fun _ => rfl⟩
    simp only [chkL]; exact Ev.now _
   | cons y ys ihy =>
    intro q hy hq hq1
    simp only [chkL, formL, cntL, depL]
    by_cases hr : (y.f0 == 1) == (x.f0 == 1)
    ·
     refine ⟨(false, q), ?_, fun h => by simp at h, fun h => ?_⟩
     ·
      simp only [hr, if_true]; exact Ev.now _
     ·
      rw [hr] at h; simp at h
    ·
     rw [Bool.not_eq_true] at hr
     simp only [hr, Bool.false_eq_true, if_false, Bool.not_false, Bool.true_and]
     obtain ⟨⟨b, q2⟩, e1, e2, e3⟩ := ih y q (hy y (by simp)) hq hq1
     cases b with
     | false =>
      refine ⟨(false, q2), ev_bind e1 (Ev.now _), fun h => by simp at h, fun h => ?_⟩
      obtain ⟨g1, g2, g3⟩ := h
      rw [Bool.and_eq_true] at g1
      have := e3 ⟨g1.1, by push_cast at g2; omega, by omega⟩
      simp at this
     | true =>
      obtain ⟨f1, f2, f3, f4⟩ := e2 rfl
      simp only at f4
      have := cnt_pos y
      obtain ⟨r, g1, g2, g3⟩ := ihy q2 (fun z hz => hy z (by simp [hz])) (by omega) (by omega)
      refine ⟨r, ev_bind e1 g1, fun h => ?_, fun h => ?_⟩
      ·
       obtain ⟨i1, i2, i3, i4⟩ := g2 h
       refine ⟨by rw [f1, i1]; rfl, by push_cast; omega, by omega, by push_cast; omega⟩
      ·
       obtain ⟨i1, i2, i3⟩ := h
       rw [Bool.and_eq_true] at i1
       exact g3 ⟨i1.2, by push_cast at i2; omega, by omega⟩
  have hcp := cnt_pos x
  simp only [chk]
  by_cases hl : l - 1 < 0
  ·
   refine ⟨(false, l - 1), by simp only [hl, if_true]; exact Ev.now _, fun h => by simp at h, fun h => by omega⟩
  ·
   simp only [hl, if_false]
   rw [formB_eq, cnt_eq, dep_eq]
   have hs := shape_ev x.f0 x.f1 x.f2 x.f3.length o1
   cases hsh : shp x.f0 x.f1 x.f2 x.f3.length with
   | false =>
    rw [hsh] at hs
    refine ⟨(false, l - 1), ev_bind hs (Ev.now _), fun h => by simp at h, fun h => by simp at h⟩
   | true =>
    rw [hsh] at hs
    obtain ⟨r, g1, g2, g3⟩ := loop x.f3 (l - 1) o3 (by omega) (by omega)
    refine ⟨r, ev_bind hs g1, fun h => ?_, fun h => ?_⟩
    ·
     obtain ⟨i1, i2, i3, i4⟩ := g2 h
     refine ⟨by rw [i1]; rfl, by push_cast; omega, by omega, by push_cast; omega⟩
    ·
     obtain ⟨i1, i2, i3⟩ := h
     rw [Bool.true_and] at i1
     exact g3 ⟨i1, by push_cast at i2; omega, by omega⟩
theorem node_eta (x : S36) : (⟨x.f0, x.f1, x.f2, x.f3⟩ : S36) = x := by cases x; rfl
theorem nValid_ev (x : S36) (hx : OkNode x) : Ev (fun k => node_Valid.f k x.f0 x.f1 x.f2 x.f3) (validB x) := by
 unfold node_Valid.f validB
 simp only [node_eta]
 refine ev_if (fun h => ?_) fun h => ev_now ?_
 ·
  obtain ⟨r, e1, e2, e3⟩ := chk_ev 24 x 1000 hx (by omega) (by omega)
  refine ev_bind (f := fun _ r => some r.1) e1 (ev_now ?_)
  rw [h]
  rw [Bool.eq_iff_iff]
  simp only [beq_self_eq_true, Bool.true_and, Bool.and_eq_true, decide_eq_true_eq]
  constructor
  ·
   intro hr; obtain ⟨i1, i2, i3, _⟩ := e2 hr; exact ⟨⟨i1, by omega⟩, i3⟩
  ·
   rintro ⟨⟨i1, i2⟩, i3⟩; exact e3 ⟨i1, by omega, i3⟩
 ·
  rw [beq_eq_false_iff_ne.2 h]; rfl
end Go.Proofs.YtagkhoeidjlahaaDoor.G.Pure
