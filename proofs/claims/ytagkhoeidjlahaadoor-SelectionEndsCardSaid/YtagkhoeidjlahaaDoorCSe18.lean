-- Written by pack2.py: this session's texts and the printer's, pruned.
import Derived.Test.YtagkhoeidjlahaaDoorCSe2
import Derived.Test.YtagkhoeidjlahaaDoorCSe9
import Derived.Test.YtagkhoeidjlahaaDoorCSe17
import Derived.Lib.IndexLaws
import Derived.Lib.Strings
namespace Go.Proofs.YtagkhoeidjlahaaDoor.G.Pure
open Go.Proofs.YtagkhoeidjlahaaDoorW.PrintWords Go.RowKit
set_option linter.unusedVariables false
set_option linter.unusedSimpArgs false
theorem ev_some {α : Type} {a : Option α} {r : α} (h : a = some r) : Ev (fun _ => a) r := ⟨0, fun _ _ => h⟩
theorem ev_now {α : Type} {a r : α} (h : a = r) : Ev (fun _ => some a) r := ⟨0, fun _ _ => by rw [h]⟩
theorem ev_if {α : Type} {c : Prop} [Decidable c] {g f : Nat → Option α} {r : α} (h : c → Ev g r) (k : ¬ c → Ev f r) : Ev (fun n => if c then g n else f n) r := by
 by_cases hc : c
 ·
  obtain ⟨K, h⟩ := h hc; exact ⟨K, fun n hn => (if_pos hc).trans (h n hn)⟩
 ·
  obtain ⟨K, k⟩ := k hc; exact ⟨K, fun n hn => (if_neg hc).trans (k n hn)⟩
theorem ev_bind {α β : Type} {g : Nat → Option α} {f : Nat → α → Option β} {a : α} {r : β} (h : Ev g a) (k : Ev (fun n => f n a) r) : Ev (fun n => (g n).bind (f n)) r := Ev.bind h k
def M : Nat := 9223372036854775807
theorem wr {n : Int} (h : -9223372036854775808 ≤ n ∧ n ≤ 9223372036854775807) : wrap64 n = n := by unfold wrap64; omega
def L (s : ByteArray) : List UInt8 := s.data.toList
theorem L_length (s : ByteArray) : (L s).length = s.size := rfl
theorem toList_L (s : ByteArray) : s.toList = L s := ByteArray.toList_eq s
theorem bt_L (s : ByteArray) (i : Nat) (h : i < s.size) : bt s i = (((L s)[i]'(by rw [L_length]; exact h)).toNat : Int) := by
 simp [bt, h, L]
 rfl
def letB (c : Int) : Bool := (decide (97 ≤ c) && decide (c ≤ 122)) || (decide (65 ≤ c) && decide (c ≤ 90))
theorem letter_eq (c : Int) : node_letter.f c = some (letB c) := by
 unfold node_letter.f letB
 simp only [ge_iff_le]
 by_cases h1 : 97 ≤ c <;> by_cases h2 : c ≤ 122 <;> by_cases h3 : 65 ≤ c <;> by_cases h4 : c ≤ 90 <;> simp [h1, h2, h3, h4] <;> omega
theorem Letter_eq (c : Int) : vinculumref09_Letter.f c = some (letB c) := letter_eq c
def hasB (s : ByteArray) (c : Int) : Bool := (L s).any fun b => (b.toNat : Int) == c
theorem has_l (s : ByteArray) (c : Int) (hs : s.size ≤ M) : ∀ (m i : Nat), s.size - i = m → Ev (fun k => vinculumref09_has.l0 k s c i) (((L s).drop i).any fun b => (b.toNat : Int) == c) := by
 intro m
 induction m with
 | zero =>
  intro i hi
  refine Ev.step (fun k => by rw [vinculumref09_has.l0]) ?_
  refine ev_if (fun h => by omega) fun _ => ev_now ?_
  rw [List.drop_eq_nil_of_le (by rw [L_length]; omega)]; rfl
 | succ m ih =>
  intro i hi
  unfold M at hs
  refine Ev.step (fun k => by rw [vinculumref09_has.l0]) ?_
  refine ev_if (fun _ => ?_) fun h => by omega
  refine ev_if (fun _ => ?_) fun h => by omega
  rw [List.drop_eq_getElem_cons (by rw [L_length]; omega), List.any_cons, bt_L s i (by omega)]
  refine ev_if (fun h => ev_now ?_) fun h => ?_
  ·
   simp [h]
  ·
   rw [wr (n := (i : Int) + 1) (by omega)]
   have := ih (i + 1) (by omega)
   rw [beq_eq_false_iff_ne.2 h, Bool.false_or]
   exact_mod_cast this
theorem has_ev (s : ByteArray) (c : Int) (hs : s.size ≤ M) : Ev (fun k => vinculumref09_has.f k s c) (hasB s c) := by
 have := has_l s c hs s.size 0 rfl
 simpa [vinculumref09_has.f, hasB] using this
def inB (l : List ByteArray) (s : ByteArray) : Bool := l.any fun a => a.toList == s.toList
theorem rdOf_at (l : List ByteArray) (i : Nat) (h : i < l.length) : rdOf ByteArray.empty l i = l[i] := by simp [rdOf, h]
theorem In_l (l : List ByteArray) (s : ByteArray) (hl : l.length ≤ M) : ∀ (m i : Nat), l.length - i = m → Ev (fun k => vinculumref09_In.l0 k l s i) ((l.drop i).any fun a => a.toList == s.toList) := by
 intro m
 induction m with
 | zero =>
  intro i hi
  refine Ev.step (fun k => by rw [vinculumref09_In.l0]) ?_
  refine ev_if (fun h => by omega) fun _ => ev_now ?_
  rw [List.drop_eq_nil_of_le (by omega)]; rfl
 | succ m ih =>
  intro i hi
  unfold M at hl
  refine Ev.step (fun k => by rw [vinculumref09_In.l0]) ?_
  refine ev_if (fun _ => ?_) fun h => by omega
  refine ev_if (fun _ => ?_) fun h => by omega
  rw [List.drop_eq_getElem_cons (by omega), List.any_cons, rdOf_at l i (by omega)]
  refine ev_if (fun h => ev_now ?_) fun h => ?_
  ·
   simp [h]
  ·
   rw [wr (n := (i : Int) + 1) (by omega)]
   have := ih (i + 1) (by omega)
   rw [beq_eq_false_iff_ne.2 h, Bool.false_or]
   exact_mod_cast this
theorem In_ev (l : List ByteArray) (s : ByteArray) (hl : l.length ≤ M) : Ev (fun k => vinculumref09_In.f k l s) (inB l s) := by
 have := In_l l s hl l.length 0 rfl
 simpa [vinculumref09_In.f, inB] using this
theorem Idx_l (l : List ByteArray) (s : ByteArray) (hl : l.length ≤ M) : ∀ (m i : Nat), l.length - i = m → ∃ j, Ev (fun k => slices_Index_string_string.l0 k l s l.length i) j ∧ decide (j ≥ 0) = ((l.drop i).any fun a => a.toList == s.toList) := by
 intro m
 induction m with
 | zero =>
  intro i hi
  refine ⟨-1, Ev.step (fun k => by rw [slices_Index_string_string.l0]) ?_, ?_⟩
  ·
   refine ev_if (fun h => by omega) fun _ => ev_now rfl
  ·
   rw [List.drop_eq_nil_of_le (by omega)]; rfl
 | succ m ih =>
  intro i hi
  unfold M at hl
  rw [List.drop_eq_getElem_cons (by omega), List.any_cons]
  by_cases h : s.toList = l[i].toList
  ·
   refine ⟨i, Ev.step (fun k => by rw [slices_Index_string_string.l0]) ?_, by simp [h]⟩
   refine ev_if (fun _ => ?_) fun h => by omega
   refine ev_if (fun _ => ?_) fun h => by omega
   refine ev_if (fun _ => ?_) fun h => by omega
   rw [rdOf_at l i (by omega)]
   exact ev_if (fun _ => ev_now rfl) fun h' => absurd h h'
  ·
   obtain ⟨j, hj, hd⟩ := ih (i + 1) (by omega)
   refine ⟨j, Ev.step (fun k => by rw [slices_Index_string_string.l0]) ?_, ?_⟩
   ·
    refine ev_if (fun _ => ?_) fun h => by omega
    refine ev_if (fun _ => ?_) fun h => by omega
    refine ev_if (fun _ => ?_) fun h => by omega
    rw [rdOf_at l i (by omega)]
    refine ev_if (fun h' => absurd h' h) fun _ => ?_
    rw [wr (n := (i : Int) + 1) (by omega)]
    exact_mod_cast hj
   ·
    rw [hd, beq_eq_false_iff_ne.2 (fun e => h e.symm), Bool.false_or]
theorem Contains_ev (l : List ByteArray) (s : ByteArray) (hl : l.length ≤ M) : Ev (fun k => slices_Contains_string_string.f k l s) (inB l s) := by
 obtain ⟨j, hj, hd⟩ := Idx_l l s hl l.length 0 rfl
 unfold slices_Contains_string_string.f slices_Index_string_string.f
 refine ev_bind (by simpa using hj) (ev_now ?_)
 rw [hd]; simp [inB]
def kws : List ByteArray := [⟨#[102, 114, 97, 99]⟩, ⟨#[114, 111, 111, 116]⟩, ⟨#[109, 97, 116, 114, 105, 120]⟩, ⟨#[102, 101, 110, 99, 101]⟩]
def accs : List ByteArray := [⟨#[104, 97, 116]⟩, ⟨#[98, 97, 114]⟩, ⟨#[118, 101, 99]⟩, ⟨#[100, 111, 116]⟩, ⟨#[116, 105, 108, 100, 101]⟩, ⟨#[99, 104, 101, 99, 107]⟩]
def plus : ByteArray := ⟨#[43, 45, 42, 47, 61, 60, 62, 44, 59, 58, 33, 124, 39, 63, 126, 64]⟩
theorem idx_ge : ∀ (l : List UInt8) (c : UInt8), decide (Lib.indexByte l c ≥ 0) = l.any fun b => (b.toNat : Int) == (c.toNat : Int)
 | [], c => by simp [Lib.indexByte]
 | b :: l, c => by
  rw [Lib.indexByte, List.any_cons, ← idx_ge l c]
  by_cases h : b = c
  ·
   subst h; simp
  ·
   have h2 : ((b.toNat : Int) == (c.toNat : Int)) = false := by
    rw [beq_eq_false_iff_ne]
    intro e
    exact h (UInt8.toNat_inj.1 (by omega))
   rw [h2, if_neg (by simpa using h), Bool.false_or]
   have := Lib.indexByte_ge l c
   split
   ·
    rename_i h3
    have : Lib.indexByte l c = -1 := by simpa using h3
    rw [this]
   ·
    rename_i h3
    have : Lib.indexByte l c ≠ -1 := by simpa using h3
    simp only [decide_eq_decide]
    omega
theorem one_byte {s : ByteArray} (h : s.size = 1) : ∃ c, L s = [c] ∧ bt s 0 = (c.toNat : Int) := by
 have hl := L_length s
 rw [h] at hl
 obtain ⟨c, hc⟩ := List.length_eq_one_iff.1 hl
 refine ⟨c, hc, ?_⟩
 have := bt_L s 0 (by omega)
 simp only [Int.ofNat_zero, hc] at this
 exact this
theorem Contains1 (a0 a1 : ByteArray) (h : a1.size = 1) : strings_Contains.f a0 a1 = some (hasB a0 (bt a1 0)) := by
 obtain ⟨c, hc, hb⟩ := one_byte h
 unfold strings_Contains.f strings_Index.f stringslite_Index.f
 rw [show a1.data.toList = [c] from hc, hb]
 simp only [Option.bind_some]
 rw [idx_ge]
 rfl
def allLet (l : List UInt8) : Bool := l.all fun b => letB (b.toNat : Int)
theorem nSym_l (s : ByteArray) (hs : s.size ≤ M) : ∀ (m i : Nat), s.size - i = m → Ev (fun k => node_Symbol.l0 k s s.size i) (allLet ((L s).drop i)) := by
 intro m
 induction m with
 | zero =>
  intro i hi
  refine Ev.step (fun k => by rw [node_Symbol.l0]) ?_
  refine ev_if (fun h => by omega) fun _ => ev_now ?_
  rw [List.drop_eq_nil_of_le (by rw [L_length]; omega)]; rfl
 | succ m ih =>
  intro i hi
  unfold M at hs
  refine Ev.step (fun k => by rw [node_Symbol.l0]) ?_
  refine ev_if (fun _ => ?_) fun h => by omega
  refine ev_if (fun _ => ?_) fun h => by omega
  refine ev_if (fun _ => ?_) fun h => by omega
  rw [allLet, List.drop_eq_getElem_cons (by rw [L_length]; omega), List.all_cons, bt_L s i (by omega), letter_eq]
  refine ev_bind (Ev.now _) ?_
  refine ev_if (fun h => ?_) fun h => ev_now ?_
  ·
   rw [wr (n := (i : Int) + 1) (by omega), h, Bool.true_and]
   have := ih (i + 1) (by omega)
   exact_mod_cast this
  ·
   rw [Bool.not_eq_true] at h; rw [h, Bool.false_and]
theorem rSym_l (s : ByteArray) (hs : s.size ≤ M) : ∀ (m i : Nat), s.size - i = m → Ev (fun k => vinculumref09_Symbol.l0 k s i) (allLet ((L s).drop i) && (decide (2 ≤ s.size) && decide (s.size ≤ 16) && !inB kws s && !inB accs s)) := by
 intro m
 induction m with
 | zero =>
  intro i hi
  refine Ev.step (fun k => by rw [vinculumref09_Symbol.l0]) ?_
  refine ev_if (fun h => by omega) fun _ => ?_
  rw [List.drop_eq_nil_of_le (by rw [L_length]; omega), show allLet [] = true from rfl, Bool.true_and]
  refine ev_if (fun h1 => ?_) fun h1 => ev_now ?_
  ·
   refine ev_if (fun h2 => ?_) fun h2 => ev_now ?_
   ·
    have e1 : decide (2 ≤ s.size) = true := decide_eq_true (by omega)
    have e2 : decide (s.size ≤ 16) = true := decide_eq_true (by omega)
    rw [e1, e2]
    refine ev_bind (ev_some (show vinculumref09_Keywords.f = some kws from rfl)) ?_
    refine ev_bind (In_ev kws s (by decide)) ?_
    refine ev_if (fun h => ev_now ?_) fun h => ?_
    ·
     rw [h]; rfl
    ·
     rw [Bool.not_eq_true] at h
     refine ev_bind (ev_some (show vinculumref09_Accents.f = some accs from rfl)) ?_
     refine ev_bind (In_ev accs s (by decide)) (ev_now ?_)
     rw [h]; rfl
   ·
    rw [decide_eq_false (show ¬ s.size ≤ 16 by omega)]; simp
  ·
   rw [decide_eq_false (show ¬ 2 ≤ s.size by omega)]; simp
 | succ m ih =>
  intro i hi
  unfold M at hs
  refine Ev.step (fun k => by rw [vinculumref09_Symbol.l0]) ?_
  refine ev_if (fun _ => ?_) fun h => by omega
  refine ev_if (fun _ => ?_) fun h => by omega
  rw [allLet, List.drop_eq_getElem_cons (by rw [L_length]; omega), List.all_cons, bt_L s i (by omega), Letter_eq]
  refine ev_bind (Ev.now _) ?_
  refine ev_if (fun h => ?_) fun h => ev_now ?_
  ·
   rw [wr (n := (i : Int) + 1) (by omega), h, Bool.true_and]
   have := ih (i + 1) (by omega)
   exact_mod_cast this
  ·
   rw [Bool.not_eq_true] at h; rw [h, Bool.false_and, Bool.false_and]
def symB (s : ByteArray) : Bool := if s.size = 1 then (letB (bt s 0) || hasB plus (bt s 0)) else allLet (L s) && (decide (2 ≤ s.size) && decide (s.size ≤ 16) && !inB kws s && !inB accs s)
theorem nSym_ev (s : ByteArray) (hs : s.size ≤ M) : Ev (fun k => node_Symbol.f k s) (symB s) := by
 unfold node_Symbol.f symB
 refine ev_if (fun h => ?_) fun h => ?_
 ·
  refine ev_if (fun _ => ?_) fun h => by omega
  rw [letter_eq, if_pos (by omega : s.size = 1)]
  refine ev_bind (Ev.now _) ?_
  refine ev_if (fun h1 => ev_now ?_) fun h1 => ?_
  ·
   rw [h1]; rfl
  ·
   rw [Bool.not_eq_true] at h1
   have := Contains1 plus s (by omega)
   refine ev_bind (ev_some this) (ev_now ?_)
   rw [h1]; rfl
 ·
  rw [if_neg (by omega : ¬ s.size = 1)]
  have j0t : Ev (fun k => node_Symbol.j0 k s true) false := Ev.step (fun k => by rw [node_Symbol.j0]) (ev_if (fun _ => ev_now rfl) fun h => absurd rfl h)
  refine ev_if (fun h1 => ?_) fun h1 => ?_
  ·
   rw [decide_eq_false (show ¬ 2 ≤ s.size by omega)]; simpa using j0t
  ·
   refine ev_if (fun h2 => ?_) fun h2 => ?_
   ·
    rw [decide_eq_false (show ¬ s.size ≤ 16 by omega)]; simpa using j0t
   ·
    rw [decide_eq_true (show 2 ≤ s.size by omega), decide_eq_true (show s.size ≤ 16 by omega)]
    have hacc : Ev (fun k => node_accent.f k s) (inB accs s) := by
     unfold node_accent.f
     exact ev_bind (Contains_ev accs s (by decide)) (Ev.now _)
    refine ev_bind hacc ?_
    refine ev_if (fun h3 => ?_) fun h3 => ?_
    ·
     rw [h3]; simpa using j0t
    ·
     rw [Bool.not_eq_true] at h3
     refine ev_bind (Contains_ev kws s (by decide)) ?_
     rw [h3]
     refine Ev.step (fun k => by rw [node_Symbol.j0]) ?_
     refine ev_if (fun h4 => ev_now ?_) fun h4 => ?_
     ·
      rw [h4]; simp
     ·
      rw [Bool.not_eq_true] at h4
      rw [h4]
      have := nSym_l s hs s.size 0 rfl
      simpa using this
theorem char_ev (s : ByteArray) (c : Int) : Ev (fun k => vinculumref09_Character.f k c) (letB c || hasB plus c) := by
 unfold vinculumref09_Character.f
 rw [Letter_eq]
 refine ev_bind (Ev.now _) ?_
 refine ev_if (fun h => ev_now ?_) fun h => ?_
 ·
  rw [h]; rfl
 ·
  rw [Bool.not_eq_true] at h
  rw [h, Bool.false_or]
  exact ev_bind (has_ev plus c (by decide)) (Ev.now _)
theorem rSym_ev (s : ByteArray) (hs : s.size ≤ M) : Ev (fun k => vinculumref09_Symbol.f k s) (symB s) := by
 unfold vinculumref09_Symbol.f symB
 refine ev_if (fun h => ?_) fun h => ?_
 ·
  refine ev_if (fun _ => ?_) fun h => by omega
  rw [if_pos (by omega : s.size = 1)]
  exact ev_bind (char_ev s _) (Ev.now _)
 ·
  rw [if_neg (by omega : ¬ s.size = 1)]
  have := rSym_l s hs s.size 0 rfl
  simpa using this
def priB (l : List UInt8) : Bool := l.all fun b => decide (32 ≤ b.toNat) && decide (b.toNat ≤ 126)
theorem nPri_l (s : ByteArray) (hs : s.size ≤ M) : ∀ (m i : Nat), s.size - i = m → Ev (fun k => node_printable.l0 k s s.size i) (priB ((L s).drop i) && decide (s.size ≤ 200)) := by
 intro m
 induction m with
 | zero =>
  intro i hi
  refine Ev.step (fun k => by rw [node_printable.l0]) ?_
  refine ev_if (fun h => by omega) fun _ => ev_now ?_
  rw [List.drop_eq_nil_of_le (by rw [L_length]; omega), show priB [] = true from rfl, Bool.true_and, decide_eq_decide]
  omega
 | succ m ih =>
  intro i hi
  unfold M at hs
  refine Ev.step (fun k => by rw [node_printable.l0]) ?_
  refine ev_if (fun _ => ?_) fun h => by omega
  refine ev_if (fun _ => ?_) fun h => by omega
  refine ev_if (fun _ => ?_) fun h => by omega
  rw [priB, List.drop_eq_getElem_cons (by rw [L_length]; omega), List.all_cons, bt_L s i (by omega)]
  refine ev_if (fun h => ev_now ?_) fun h => ?_
  ·
   rw [decide_eq_false (show ¬ 32 ≤ ((L s)[i]'(by rw [L_length]; omega)).toNat by omega)]; simp
  ·
   refine ev_if (fun h2 => ev_now ?_) fun h2 => ?_
   ·
    rw [decide_eq_false (show ¬ ((L s)[i]'(by rw [L_length]; omega)).toNat ≤ 126 by omega)]; simp
   ·
    rw [decide_eq_true (show 32 ≤ ((L s)[i]'(by rw [L_length]; omega)).toNat by omega), decide_eq_true (show ((L s)[i]'(by rw [L_length]; omega)).toNat ≤ 126 by omega), Bool.true_and, Bool.true_and, wr (n := (i : Int) + 1) (by omega)]
    have := ih (i + 1) (by omega)
    exact_mod_cast this
theorem rPri_l (s : ByteArray) (hs : s.size ≤ M) : ∀ (m i : Nat), s.size - i = m → Ev (fun k => vinculumref09_Printable.l0 k s i) (priB ((L s).drop i)) := by
 intro m
 induction m with
 | zero =>
  intro i hi
  refine Ev.step (fun k => by rw [vinculumref09_Printable.l0]) ?_
  refine ev_if (fun h => by omega) fun _ => ev_now ?_
  rw [List.drop_eq_nil_of_le (by rw [L_length]; omega)]; rfl
 | succ m ih =>
  intro i hi
  unfold M at hs
  refine Ev.step (fun k => by rw [vinculumref09_Printable.l0]) ?_
  refine ev_if (fun _ => ?_) fun h => by omega
  refine ev_if (fun _ => ?_) fun h => by omega
  rw [priB, List.drop_eq_getElem_cons (by rw [L_length]; omega), List.all_cons, bt_L s i (by omega)]
  refine ev_if (fun h => ev_now ?_) fun h => ?_
  ·
   rw [decide_eq_false (show ¬ 32 ≤ ((L s)[i]'(by rw [L_length]; omega)).toNat by omega)]; simp
  ·
   refine ev_if (fun h2 => ev_now ?_) fun h2 => ?_
   ·
    rw [decide_eq_false (show ¬ ((L s)[i]'(by rw [L_length]; omega)).toNat ≤ 126 by omega)]; simp
   ·
    rw [decide_eq_true (show 32 ≤ ((L s)[i]'(by rw [L_length]; omega)).toNat by omega), decide_eq_true (show ((L s)[i]'(by rw [L_length]; omega)).toNat ≤ 126 by omega), Bool.true_and, Bool.true_and, wr (n := (i : Int) + 1) (by omega)]
    have := ih (i + 1) (by omega)
    exact_mod_cast this
end Go.Proofs.YtagkhoeidjlahaaDoor.G.Pure
