-- Written by pack2.py: this session's texts and the printer's, pruned.
import Derived.Test.YtagkhoeidjlahaaDoorCSe18
import Derived.Lib.SlTrimSet
import Derived.Test.YtagkhoeidjlahaaDoorCSe2
namespace Go.Proofs.YtagkhoeidjlahaaDoor.G.Pure
open Go.Proofs.YtagkhoeidjlahaaDoorW.PrintWords Go.RowKit
set_option linter.unusedVariables false
set_option linter.unusedSimpArgs false
theorem dropWhile_bad {α : Type} {p : α → Bool} : ∀ {l : List α}, l.dropWhile p ≠ [] → ∃ b ∈ l.dropWhile p, p b = false
 | [], h => absurd rfl h
 | a :: l, h => by
  rw [List.dropWhile_cons] at h ⊢
  split at h
  ·
   rename_i hp
   rw [if_pos hp]
   exact dropWhile_bad h
  ·
   rename_i hp
   rw [if_neg hp]
   exact ⟨a, by simp, by simpa using hp⟩
theorem takeWhile_mem {α : Type} {p : α → Bool} {b : α} : ∀ {l : List α}, b ∈ l.takeWhile p → p b = true
 | [], h => by simp at h
 | a :: l, h => by
  rw [List.takeWhile_cons] at h
  split at h
  ·
   rename_i hp
   rcases List.mem_cons.1 h with rfl | h
   ·
    exact hp
   ·
    exact takeWhile_mem h
  ·
   simp at h
theorem dropWhile_all {α : Type} {p : α → Bool} : ∀ {l : List α}, (∀ b ∈ l, p b = true) → l.dropWhile p = []
 | [], _ => rfl
 | a :: l, h => by
  rw [List.dropWhile_cons, if_pos (h a (by simp))]
  exact dropWhile_all fun b hb => h b (by simp [hb])
theorem trimS_nil (l cs : List UInt8) : (Lib.trimS l cs).isEmpty = l.all (cs.contains ·) := by
 unfold Lib.trimS Lib.trimLeftS Lib.trimRightS
 by_cases h : l.all (cs.contains ·) = true
 ·
  rw [h, dropWhile_all (l := l.reverse) (fun b hb => by simpa using List.all_eq_true.1 h b (by simpa using hb))]
  rfl
 ·
  have hne : l.reverse.dropWhile (cs.contains ·) ≠ [] := by
   intro e
   refine h (List.all_eq_true.2 fun b hb => ?_)
   have := List.takeWhile_append_dropWhile (p := (cs.contains ·)) (l := l.reverse)
   rw [e, List.append_nil] at this
   have hb' : b ∈ l.reverse.takeWhile (cs.contains ·) := by rw [this]; simpa using hb
   exact takeWhile_mem hb'
  obtain ⟨b, hb, hp⟩ := dropWhile_bad hne
  have h2 : (l.reverse.dropWhile (cs.contains ·)).reverse.dropWhile (cs.contains ·) ≠ [] := by
   intro e
   have := List.takeWhile_append_dropWhile (p := (cs.contains ·)) (l := (l.reverse.dropWhile (cs.contains ·)).reverse)
   rw [e, List.append_nil] at this
   have hb' : b ∈ (l.reverse.dropWhile (cs.contains ·)).reverse.takeWhile (cs.contains ·) := by rw [this]; simpa using hb
   have := takeWhile_mem hb'
   rw [hp] at this
   cases this
  rw [Bool.not_eq_true] at h
  rw [h]
  cases hd : (l.reverse.dropWhile (cs.contains ·)).reverse.dropWhile (cs.contains ·) with
  | nil => exact absurd hd h2
  | cons a t => rfl
def digI (b : UInt8) : Bool := decide (48 ≤ b.toNat) && decide (b.toNat ≤ 57)
set_option maxRecDepth 100000 in
theorem dig_small : ∀ n < 256, ([48, 49, 50, 51, 52, 53, 54, 55, 56, 57] : List UInt8).contains (UInt8.ofNat n) = (decide (48 ≤ n) && decide (n ≤ 57)) := by decide
theorem dig_contains (b : UInt8) : ([48, 49, 50, 51, 52, 53, 54, 55, 56, 57] : List UInt8).contains b = digI b := by
 have := dig_small b.toNat b.toNat_lt
 rw [UInt8.ofNat_toNat] at this
 exact this
def digs (l : List UInt8) : Bool := !l.isEmpty && l.all digI
theorem digits_eq (a : ByteArray) (ha : a.size ≤ M) : node_digits.f a = some (digs (L a)) := by
 unfold node_digits.f strings_Trim.f digs
 rw [toList_L]
 by_cases h : L a = []
 ·
  rw [if_pos h, h]; rfl
 ·
  rw [if_neg h, if_pos ⟨ha, by decide, by decide⟩]
  simp only [Option.bind_some]
  rw [toList_L]
  have e : L ⟨(Lib.trimS a.data.toList (ByteArray.mk #[48, 49, 50, 51, 52, 53, 54, 55, 56, 57]).data.toList).toArray⟩ = Lib.trimS (L a) [48, 49, 50, 51, 52, 53, 54, 55, 56, 57] := by simp [L]
  rw [e]
  have h1 := trimS_nil (L a) [48, 49, 50, 51, 52, 53, 54, 55, 56, 57]
  have h2 : (L a).isEmpty = false := by simpa using h
  rw [h2]
  have h3 : ∀ t : List UInt8, (t == []) = t.isEmpty := fun t => by cases t <;> rfl
  rw [h3, h1]
  simp only [dig_contains]
  rfl
def numB (l : List UInt8) : Bool := decide (l.length ≤ 20) && (if 0 ≤ Lib.indexByte l 46 then digs (l.take (Lib.indexByte l 46).toNat) && digs (l.drop ((Lib.indexByte l 46).toNat + 1)) else digs l)
theorem idx_lt : ∀ (l : List UInt8) (c : UInt8), Lib.indexByte l c < l.length
 | [], c => by simp [Lib.indexByte]
 | b :: l, c => by
  rw [Lib.indexByte]
  have := idx_lt l c
  simp only [List.length_cons]
  split
  ·
   omega
  ·
   split <;> omega
theorem nNum_eq (a : ByteArray) (ha : a.size ≤ M) : node_Number.f a = some (numB (L a)) := by
 unfold node_Number.f numB
 rw [L_length]
 by_cases h20 : (a.size : Int) > 20
 ·
  rw [if_pos h20, decide_eq_false (show ¬ a.size ≤ 20 by omega)]; rfl
 ·
  rw [if_neg h20, decide_eq_true (show a.size ≤ 20 by omega), Bool.true_and]
  unfold strings_Cut.f stringslite_Cut.f stringslite_Index.f
  rw [show (ByteArray.mk #[46]).data.toList = [46] from rfl]
  simp only [Option.bind_some, show a.data.toList = L a from rfl]
  have hlt := idx_lt (L a) 46
  rw [L_length] at hlt
  have h1 : ((ByteArray.mk #[46]).size : Int) = 1 := rfl
  by_cases hi : Lib.indexByte (L a) 46 ≥ 0
  ·
   rw [if_pos hi, if_pos hi, if_pos (by omega), h1, wr (n := Lib.indexByte (L a) 46 + 1) (by omega), if_pos (by omega), if_pos (by omega), if_pos hi]
   simp only [Option.bind_some]
   have e0 : L (a.extract 0 (Lib.indexByte (L a) 46).toNat) = (L a).take (Lib.indexByte (L a) 46).toNat := by
    simp [L]
   have e1 : L (a.extract (Lib.indexByte (L a) 46 + 1).toNat a.size) = (L a).drop ((Lib.indexByte (L a) 46).toNat + 1) := by
    have := Lib.extract_to_end a (Lib.indexByte (L a) 46 + 1).toNat
    rw [show (Lib.indexByte (L a) 46 + 1).toNat = (Lib.indexByte (L a) 46).toNat + 1 by omega] at this ⊢
    exact this
   have s0 : (a.extract 0 (Lib.indexByte (L a) 46).toNat).size ≤ M := by
    rw [← L_length, e0, List.length_take, L_length]; unfold M at *; omega
   have s1 : (a.extract (Lib.indexByte (L a) 46 + 1).toNat a.size).size ≤ M := by
    rw [← L_length, e1, List.length_drop, L_length]; unfold M at *; omega
   rw [digits_eq _ s0, e0]
   simp only [Option.bind_some]
   cases hd : digs ((L a).take (Lib.indexByte (L a) 46).toNat) with
   | false => simp
   | true =>
    rw [if_pos rfl, if_pos trivial, digits_eq _ s1, e1]
    simp
  ·
   rw [if_neg hi, if_neg hi]
   simp only [Option.bind_some]
   rw [digits_eq a ha]
   simp only [Option.bind_some]
   cases hd : digs (L a) <;> simp
def rN (n : Nat) : Nat → Nat → List UInt8 → Bool
 | _, pts, [] => decide (0 < n) && decide (n ≤ 20) && decide (pts ≤ 1)
 | i, pts, c :: r => if c.toNat = 46 ∧ 0 < i ∧ i + 1 < n then rN n (i + 1) (pts + 1) r else digI c && rN n (i + 1) pts r
theorem Digit_eq (b : UInt8) : vinculumref09_Digit.f (b.toNat : Int) = some (digI b) := by
 unfold vinculumref09_Digit.f digI
 by_cases h1 : 48 ≤ b.toNat
 ·
  rw [if_pos (by omega), decide_eq_true h1, Bool.true_and]
  congr 1
  rw [decide_eq_decide]
  omega
 ·
  rw [if_neg (by omega), decide_eq_false h1, Bool.false_and]
theorem rNum_l (s : ByteArray) (hs : s.size ≤ M) : ∀ (m i pts : Nat), s.size - i = m → i ≤ s.size → pts ≤ i → Ev (fun k => vinculumref09_Number.l0 k s pts i) (rN s.size i pts ((L s).drop i)) := by
 intro m
 induction m with
 | zero =>
  intro i pts hi hi2 hp
  refine Ev.step (fun k => by rw [vinculumref09_Number.l0]) ?_
  refine ev_if (fun h => by omega) fun _ => ?_
  rw [List.drop_eq_nil_of_le (by rw [L_length]; omega), rN]
  refine ev_if (fun h1 => ?_) fun h1 => ev_now ?_
  ·
   refine ev_if (fun h2 => ev_now ?_) fun h2 => ev_now ?_
   ·
    rw [decide_eq_true (show 0 < s.size by omega), decide_eq_true (show s.size ≤ 20 by omega), Bool.true_and, Bool.true_and, decide_eq_decide]; omega
   ·
    rw [decide_eq_false (show ¬ s.size ≤ 20 by omega)]; simp
  ·
   rw [decide_eq_false (show ¬ 0 < s.size by omega)]; simp
 | succ m ih =>
  intro i pts hi hi2 hp
  unfold M at hs
  have hil : i < (L s).length := by rw [L_length]; omega
  refine Ev.step (fun k => by rw [vinculumref09_Number.l0]) ?_
  refine ev_if (fun _ => ?_) fun h => by omega
  refine ev_if (fun _ => ?_) fun h => by omega
  rw [List.drop_eq_getElem_cons hil, rN, bt_L s i (by omega)]
  have dot : 0 < i → i + 1 < s.size → ((L s)[i]'hil).toNat = 46 → Ev (fun k => vinculumref09_Number.j1 k s pts i true) (rN s.size (i + 1) (pts + 1) ((L s).drop (i + 1))) := by
   intro h1 h2 h3
   refine Ev.step (fun k => by rw [vinculumref09_Number.j1]) ?_
   refine ev_if (fun _ => ?_) fun h => absurd rfl h
   rw [wr (n := (pts : Int) + 1) (by omega), wr (n := (i : Int) + 1) (by omega)]
   have := ih (i + 1) (pts + 1) (by omega) (by omega) (by omega)
   exact_mod_cast this
  have dig : Ev (fun k => vinculumref09_Number.j1 k s pts i false) (digI ((L s)[i]'hil) && rN s.size (i + 1) pts ((L s).drop (i + 1))) := by
   refine Ev.step (fun k => by rw [vinculumref09_Number.j1]) ?_
   refine ev_if (fun h => by cases h) fun _ => ?_
   refine ev_if (fun _ => ?_) fun h => by omega
   refine ev_if (fun _ => ?_) fun h => by omega
   rw [bt_L s i (by omega), Digit_eq]
   refine ev_bind (Ev.now _) ?_
   refine ev_if (fun h => ?_) fun h => ev_now ?_
   ·
    rw [h, Bool.true_and, wr (n := (i : Int) + 1) (by omega)]
    have := ih (i + 1) pts (by omega) (by omega) (by omega)
    exact_mod_cast this
   ·
    rw [Bool.not_eq_true] at h; rw [h]; rfl
  refine ev_if (fun h1 => ?_) fun h1 => ?_
  ·
   refine ev_if (fun h2 => ?_) fun h2 => ?_
   ·
    rw [wr (n := (s.size : Int) - 1) (by omega)]
    by_cases h3 : i + 1 < s.size
    ·
     rw [if_pos ⟨by omega, by omega, h3⟩, decide_eq_true (show (i : Int) < (s.size : Int) - 1 by omega)]
     exact dot (by omega) h3 (by omega)
    ·
     rw [if_neg (fun h => h3 h.2.2), decide_eq_false (show ¬ (i : Int) < (s.size : Int) - 1 by omega)]
     exact dig
   ·
    rw [if_neg (fun h => h2 (by omega))]
    exact dig
  ·
   rw [if_neg (fun h => h1 (by omega))]
   exact dig
theorem dig46 {c : UInt8} (h : c.toNat = 46) : digI c = false := by unfold digI; rw [h]; rfl
theorem rN2 (n : Nat) : ∀ (r : List UInt8) (i pts : Nat), 2 ≤ pts → rN n i pts r = false
 | [], i, pts, h => by rw [rN, decide_eq_false (show ¬ pts ≤ 1 by omega)]; simp
 | c :: r, i, pts, h => by
  rw [rN]
  split
  ·
   exact rN2 n r _ _ (by omega)
  ·
   rw [rN2 n r _ _ h]; simp
theorem rN1 (n : Nat) : ∀ (r : List UInt8) (i : Nat), 0 < n → rN n i 1 r = (decide (n ≤ 20) && r.all digI)
 | [], i, h => by rw [rN, decide_eq_true h]; simp
 | c :: r, i, h => by
  rw [rN, List.all_cons]
  split
  ·
   rename_i h2
   rw [rN2 n r _ _ (by omega), dig46 h2.1]; simp
  ·
   rw [rN1 n r _ h]; cases digI c <;> simp
theorem idx_cons (c : UInt8) (r : List UInt8) : Lib.indexByte (c :: r) 46 = if c.toNat = 46 then 0 else if Lib.indexByte r 46 = -1 then -1 else Lib.indexByte r 46 + 1 := by
 rw [Lib.indexByte]
 by_cases h : c = 46
 ·
  subst h; rfl
 ·
  have h2 : ¬ c.toNat = 46 := fun e => h (UInt8.toNat_inj.1 e)
  rw [if_neg (by simpa using h), if_neg h2]
  by_cases h3 : Lib.indexByte r 46 = -1
  ·
   rw [if_pos (by simpa using h3), if_pos h3]
  ·
   rw [if_neg (by simpa using h3), if_neg h3]
theorem rN0 (n : Nat) : ∀ (r : List UInt8) (i : Nat), 0 < i → i + r.length = n → rN n i 0 r = (decide (n ≤ 20) && (if 0 ≤ Lib.indexByte r 46 then (r.take (Lib.indexByte r 46).toNat).all digI && digs (r.drop ((Lib.indexByte r 46).toNat + 1)) else r.all digI))
 | [], i, h, hn => by rw [rN, decide_eq_true (show 0 < n by omega)]; simp [Lib.indexByte]
 | c :: r, i, h, hn => by
  have hge := Lib.indexByte_ge r 46
  simp only [List.length_cons] at hn
  rw [rN, idx_cons]
  by_cases h46 : c.toNat = 46
  ·
   simp only [h46, true_and, if_true]
   by_cases hl : i + 1 < n
   ·
    rw [if_pos ⟨h, hl⟩, rN1 n r _ (by omega)]
    have : r.isEmpty = false := by cases r with
     | nil => simp at hn; omega
     | cons a b => rfl
    simp [digs, this]
   ·
    rw [if_neg (fun x => hl x.2), dig46 h46]
    have : r = [] := by cases r with
     | nil => rfl
     | cons a b => simp at hn; omega
    subst this
    simp [digs]
  ·
   simp only [h46, false_and, if_false]
   rw [rN0 n r (i + 1) (by omega) (by omega)]
   by_cases hm : Lib.indexByte r 46 = -1
   ·
    rw [if_pos hm, hm]
    simp only [show ¬ ((0 : Int) ≤ -1) by omega, if_false, List.all_cons]
    cases digI c <;> simp
   ·
    rw [if_neg hm, if_pos (by omega), if_pos (by omega)]
    rw [show (Lib.indexByte r 46 + 1).toNat = (Lib.indexByte r 46).toNat + 1 by omega, List.take_succ_cons, List.drop_succ_cons, List.all_cons]
    cases digI c <;> simp
theorem rN_eq (l : List UInt8) : rN l.length 0 0 l = numB l := by
 cases l with
 | nil => rfl
 | cons c r =>
  have hge := Lib.indexByte_ge r 46
  unfold numB
  rw [rN, if_neg (fun h => by omega), rN0 _ r 1 (by omega) (by simp; omega), idx_cons]
  by_cases h46 : c.toNat = 46
  ·
   simp only [h46, if_true]
   rw [dig46 h46]
   simp [digs]
  ·
   simp only [h46, if_false]
   by_cases hm : Lib.indexByte r 46 = -1
   ·
    rw [if_pos hm, hm]
    simp only [show ¬ ((0 : Int) ≤ -1) by omega, if_false]
    unfold digs
    simp only [List.isEmpty_cons, Bool.not_false, Bool.true_and, List.all_cons]
    cases digI c <;> simp
   ·
    rw [if_neg hm, if_pos (by omega), if_pos (by omega)]
    rw [show (Lib.indexByte r 46 + 1).toNat = (Lib.indexByte r 46).toNat + 1 by omega, List.take_succ_cons, List.drop_succ_cons]
    unfold digs
    simp only [List.isEmpty_cons, Bool.not_false, Bool.true_and, List.all_cons]
    cases digI c <;> simp
theorem rNum_ev (s : ByteArray) (hs : s.size ≤ M) : Ev (fun k => vinculumref09_Number.f k s) (numB (L s)) := by
 have := rNum_l s hs s.size 0 0 rfl (by omega) (by omega)
 rw [List.drop_zero] at this
 have e := rN_eq (L s)
 rw [L_length] at e
 rw [e] at this
 simpa [vinculumref09_Number.f] using this
def dlm : ByteArray := ⟨#[40, 41, 91, 93, 123, 125, 124, 60, 62, 47, 46]⟩
def dlm2 : ByteArray := ⟨#[40, 41, 91, 93, 123, 125, 60, 62, 47, 124, 46]⟩
theorem dlm_eq (c : Int) : hasB dlm2 c = hasB dlm c := by
 unfold hasB
 exact List.Perm.any_eq (show (L dlm2).Perm (L dlm) from by decide)
def fenB (s : ByteArray) : Bool := decide (s.size = 2) && hasB dlm (bt s 0) && hasB dlm (bt s 1)
theorem nFen_eq (s : ByteArray) : node_fence.f s = some (fenB s) := by
 unfold node_fence.f fenB
 by_cases h : (s.size : Int) = 2
 ·
  have h2 : s.size = 2 := by omega
  rw [if_pos h, if_pos (by omega), if_pos (by omega), decide_eq_true h2]
  have l0 : L (s.extract 0 1) = (L s).take 1 := by simp [L]
  have l1 : L (s.extract 1 s.size) = (L s).drop 1 := Lib.extract_to_end s 1
  have hL : (L s).length = 2 := by rw [L_length]; exact h2
  have z0 : (s.extract 0 1).size = 1 := by rw [← L_length, l0, List.length_take]; omega
  have z1 : (s.extract 1 s.size).size = 1 := by rw [← L_length, l1, List.length_drop]; omega
  have b0 : bt (s.extract 0 1) 0 = bt s 0 := by
   have e0 := bt_L (s.extract 0 1) 0 (by omega)
   have e1 := bt_L s 0 (by omega)
   simp only [Int.ofNat_zero, l0] at e0
   simp only [Int.ofNat_zero] at e1
   rw [e0, e1]
   simp
  have b1 : bt (s.extract 1 s.size) 0 = bt s 1 := by
   have e0 := bt_L (s.extract 1 s.size) 0 (by omega)
   have e1 := bt_L s 1 (by omega)
   simp only [Int.ofNat_zero, l1] at e0
   rw [e0]
   refine Eq.trans ?_ e1.symm
   simp
  rw [show (⟨#[40, 41, 91, 93, 123, 125, 60, 62, 47, 124, 46]⟩ : ByteArray) = dlm2 from rfl, Contains1 _ _ z0, b0, Contains1 _ _ z1, b1, dlm_eq, dlm_eq]
  simp only [Option.bind_some]
  cases hasB dlm (bt s 0) <;> simp
 ·
  rw [if_neg h, decide_eq_false (show ¬ s.size = 2 by omega)]; simp
end Go.Proofs.YtagkhoeidjlahaaDoor.G.Pure
namespace Go.Proofs.YtagkhoeidjlahaaDoor.G
open Go.RowKit Go.Proofs.YtagkhoeidjlahaaDoorW.PrintWords Go.Proofs.YtagkhoeidjlahaaDoorW.PrintLast Go.Proofs.YtagkhoeidjlahaaDoorW.PrintMore
attribute [local go_sem] max2_int min2_int max_two min_two max_three min_three max_four min_four
set_option linter.unusedVariables false
set_option linter.unusedSimpArgs false
mutual
def vinculumref09_left.l0 : Nat → Int → Int → Int → ByteArray → Int → List (S36) → Option (Int)
 | 0, _, _, _, _, _, _ => none
 | k + 1, x1, x5, x204000, x204001, x204002, x204003 => if x5 < (x204003.length : Int) then (if x1 ≥ 0 then (if 0 ≤ x5 then ((vinculumref09_left.f k ((rd_T36 x204003 x5).f0) ((rd_T36 x204003 x5).f1) ((rd_T36 x204003 x5).f2) ((rd_T36 x204003 x5).f3) x1).bind fun t205 => (vinculumref09_left.l0 k t205 (wrap64 (x5 + 1)) x204000 x204001 x204002 x204003)) else (none)) else (some x1)) else (some x1)
def vinculumref09_left.f : Nat → Int → ByteArray → Int → List (S36) → Int → Option (Int)
 | 0, _, _, _, _, _ => none
 | k + 1, a0_0, a0_1, a0_2, l0_3, a1 => vinculumref09_left.l0 k (wrap64 (a1 - 1)) 0 a0_0 a0_1 a0_2 l0_3
end
set_option maxHeartbeats 8000000 in
set_option maxRecDepth 100000 in
theorem vinculumref09_left.calls (k : Nat) : ∀ (a0_0 : Int) (a0_1 : ByteArray) (a0_2 : Int) (A0_3 : Option Addr) (c0_3 : Nat) (l0_3 : List (S36)) (a1 : Int) (r : Int) (w : World) (hr0_3 : Kd.C k36 w A0_3 l0_3.length l0_3) (hc0_3 : l0_3.length ≤ c0_3) (h : vinculumref09_left.f k a0_0 a0_1 a0_2 l0_3 a1 = some r),
  Calls Tryd.prog 86 #[.agg #[.int .i64 a0_0, .string a0_1, .int .i64 a0_2, .slice A0_3 l0_3.length c0_3], .int .i64 a1] w fun e w' => e = .returned (.int .i64 r) ∧ Below w.heap.size w w' := by
 induction k using Nat.strongRecOn with
 | _ k ih =>
 intro a0_0 a0_1 a0_2 A0_3 c0_3 l0_3 a1 r w hr0_3 hc0_3 h
 cases k with
 | zero => exact absurd h (by simp [vinculumref09_left.f])
 | succ k =>
 simp only [vinculumref09_left.f] at h
 have hu36 := Tryd.underlying36
 have HR0_3 := Aside0.mk hr0_3
 have HC0_3 := Aside0.mk hc0_3
 clear hr0_3 hc0_3
 have HB := Aside0.mk (Below.refl w.heap.size w)
 have H : (vinculumref09_left.l0 k (wrap64 (a1 - 1)) 0 a0_0 a0_1 a0_2 l0_3) = some r := h
 clear h
 have H' := Aside0.mk H
 clear H
 go_enter Tryd.func86, Tryd.ntmps86
 go_wp2_with (first | ((with_reducible refine gate_dst (N := 2) rfl ?_); refine box_event ?hg (N := 2) ?hd (cs := #[.int .i64 a0_0, .string a0_1, .int .i64 a0_2, .slice A0_3 l0_3.length c0_3]) (t := 36) ?hr ?_; (case hd => rfl); (case hg => rfl); (case hr => first | (go_simp; done) | (go_simp; rfl)); intro gb203 hg w3 hbox hb; have n0_ := Aside0.mk (below_step (by repeat (first | (with_reducible first | exact HB.out | apply below_alloc | apply pw_below_drewN | apply below_drew1) | exact HB.out)) hb); have n1_ := Aside0.mk (hbox); have n2_ := Aside0.mk ((by rw [hg]; exact (below_size (by repeat (first | (with_reducible first | exact HB.out | apply below_alloc | apply pw_below_drewN | apply below_drew1) | exact HB.out))) : w.heap.size ≤ gb203)); have n3_ := Aside0.mk ((by rw [hg]; exact (below_size (by repeat (first | (with_reducible first | exact HB.out | apply below_alloc | apply pw_below_drewN | apply below_drew1) | exact HB.out))) : w.heap.size ≤ gb203)); clear HB; have HB := n0_; have BK203 := n1_; have GW203 := n2_; have GE203 := n3_; clear n0_ n1_ n2_ n3_; clear hb hbox hg))
 go_loopg [1, 5] k (fun kq v1 v5 w' => ∃ (x1_1 : Int) (x5_1 : Int), v1 = .int .i64 x1_1 ∧ v5 = .int .i64 x5_1 ∧ Aside0 (vinculumref09_left.l0 kq x1_1 x5_1 a0_0 a0_1 a0_2 l0_3 = some r) ∧ Aside0 (kq ≤ k) ∧ Aside0 (w'.heap[gb203]? = some (.cells #[.int .i64 a0_0, .string a0_1, .int .i64 a0_2, (.slice A0_3 l0_3.length c0_3)] 36 (0, 0))) ∧ Aside0 (Below w.heap.size w w'))
 case atStart => exact ⟨(wrap64 (a1 - 1)), (0), (by first | rfl | (simp; done) | (simp [*]; done)), (by first | rfl | (simp; done) | (simp [*]; done)), H', ⟨Nat.le_refl _⟩, ⟨by (with_reducible repeat (first | refine blk_drewN ?_ _ | refine blk_drew ?_ | refine blk_alloc ?_ _)); exact BK203.out⟩, ⟨by repeat (first | (with_reducible first | exact HB.out | apply below_alloc | apply pw_below_drewN | apply below_drew1 | refine below_set ?_ GE203.out) | exact HB.out)⟩⟩
 case round =>
  clear H'
  try clear p2
  obtain ⟨x1_1, x5_1, rfl, rfl, HA, HK1, BK203, HB⟩ := hrel
  cases gk with
  | zero => exact absurd HA.out (by simp [vinculumref09_left.l0])
  | succ k1 =>
   have H := HA.out
   clear HA
   simp only [vinculumref09_left.l0] at H
   by_cases c4 : x5_1 < (l0_3.length : Int)
   ·
    rw [if_pos c4] at H
    have c4b0 : decide (x5_1 < (l0_3.length : Int)) = true := decide_eq_true c4
    clear c4
    by_cases c5 : x1_1 ≥ 0
    ·
     rw [if_pos c5] at H
     have c5b0 : decide (0 ≤ x1_1) = true := decide_eq_true c5
     clear c5
     by_cases c6 : 0 ≤ x5_1
     ·
      rw [if_pos c6] at H
      have c6b0 : decide (0 ≤ x5_1) = true := decide_eq_true c6
      clear c6
      replace H := Option.bind_eq_some_iff.mp H
      obtain ⟨t205, A70, H⟩ := H
      replace H : (vinculumref09_left.l0 k1 t205 (wrap64 (x5_1 + 1)) a0_0 a0_1 a0_2 l0_3) = some r := H
      have A7 := Aside0.mk A70
      clear A70
      have H' := Aside0.mk H
      clear H
      have hcz8_0 : wr.cell? ⟨gb203, 0, none⟩ = some (.int .i64 a0_0) := (blk_cell BK203.out 0).trans rfl
      have hcz8_1 : wr.cell? ⟨gb203, 1, none⟩ = some (.string a0_1) := (blk_cell BK203.out 1).trans rfl
      have hcz8_2 : wr.cell? ⟨gb203, 2, none⟩ = some (.int .i64 a0_2) := (blk_cell BK203.out 2).trans rfl
      have hcz8_3 : wr.cell? ⟨gb203, 3, none⟩ = some (.slice A0_3 l0_3.length c0_3) := (blk_cell BK203.out 3).trans rfl
      have hfz8_0 := blk_frozen BK203.out 0
      have hfz8_1 := blk_frozen BK203.out 1
      have hfz8_2 := blk_frozen BK203.out 2
      have hfz8_3 := blk_frozen BK203.out 3
      have p204 : 0 ≤ (x5_1 : Int) := of_decide_eq_true (by first | (with_reducible assumption) | assumption)
      have q204 : x5_1 < (l0_3.length : Int) := of_decide_eq_true (by first | (with_reducible assumption) | assumption)
      obtain ⟨ad204, A204_3, c204_3, e204, hx204_0, hx204_1, hx204_2, hx204_3, hl204_3, hi204_3⟩ := at_T36 HR0_3.out x5_1 p204 q204
      cases e204
      replace hx204_0 := (HB.out.cell (World.block_lt_of_cell? w _ hx204_0)).trans hx204_0
      replace hx204_1 := (HB.out.cell (World.block_lt_of_cell? w _ hx204_1)).trans hx204_1
      replace hx204_2 := (HB.out.cell (World.block_lt_of_cell? w _ hx204_2)).trans hx204_2
      replace hx204_3 := (HB.out.cell (World.block_lt_of_cell? w _ hx204_3)).trans hx204_3
      have HR204_3 := Aside0.mk hi204_3
      have HC204_3 := Aside0.mk hl204_3
      clear hi204_3 hl204_3
      replace p204 := eq_true p204
      replace q204 := eq_true q204
      go_wp2_with (first | ((with_reducible refine gate_callee (f := 86) rfl ?_); refine goesL_ (some 25) rfl rfl Tryd.func86 (by kernel_rfl) rfl #[.agg #[.int .i64 ((rd_T36 l0_3 x5_1).f0), .string ((rd_T36 l0_3 x5_1).f1), .int .i64 ((rd_T36 l0_3 x5_1).f2), .slice A204_3 ((rd_T36 l0_3 x5_1).f3).length c204_3], .int .i64 x1_1] rfl (by (try simp only [List.map_toArray, List.map_cons, List.map_nil]); first | done | rfl | (simp only [List.length_drop, List.length_take]; rfl)) ?_; (with_reducible refine (ih k1 (by have := HK1.out; omega) ((rd_T36 l0_3 x5_1).f0) ((rd_T36 l0_3 x5_1).f1) ((rd_T36 l0_3 x5_1).f2) _ _ ((rd_T36 l0_3 x5_1).f3) x1_1 t205 _ ?side1 ?side2 A7.out).mono ?_); (case side1 => repeat (first | exact (Kd.C_below HR204_3.out HB.out) | (with_reducible refine Kd.C_alloc ?_ _) | (with_reducible refine Kd.C_drewN ?_ _) | (with_reducible refine Kd.C_drew ?_))); (case side2 => exact HC204_3.out); rintro e w9 ⟨rfl, hb⟩; refine ⟨_, rfl, ?_⟩; have n0_ := Aside0.mk (blk_below (g := gb203) (o := .cells #[.int .i64 a0_0, .string a0_1, .int .i64 a0_2, .slice (some ad204) l0_3.length c0_3] 36 (0, 0)) (by (with_reducible repeat (first | refine blk_drewN ?_ _ | refine blk_drew ?_ | refine blk_alloc ?_ _)); exact BK203.out) hb); have n1_ := Aside0.mk (below_step (by repeat (first | (with_reducible first | exact HB.out | apply below_alloc | apply pw_below_drewN | apply below_drew1 | refine below_set ?_ GE203.out) | exact HB.out)) hb); clear BK203; clear HB; have BK203 := n0_; have HB := n1_; clear n0_ n1_; (try clear hb); (try clear hb2); (try clear hk); (try clear hi)))
      go_roundg k1
      case measure => have := HK1.out; omega
      case rel => exact ⟨(t205), (wrap64 (x5_1 + 1)), (by first | rfl | (simp; done) | (simp [*]; done)), (by first | rfl | (simp; done) | (simp [*]; done)), H', ⟨by have := HK1.out; omega⟩, ⟨by (with_reducible repeat (first | refine blk_drewN ?_ _ | refine blk_drew ?_ | refine blk_alloc ?_ _)); exact BK203.out⟩, ⟨by repeat (first | (with_reducible first | exact HB.out | apply below_alloc | apply pw_below_drewN | apply below_drew1 | refine below_set ?_ GE203.out) | exact HB.out)⟩⟩
     ·
      rw [if_neg c6] at H
      exact absurd H (by simp)
    ·
     rw [if_neg c5] at H
     have c5b0 : decide (0 ≤ x1_1) = false := decide_eq_false c5
     clear c5
     obtain rfl := Option.some.inj H
     have hcz10_0 : wr.cell? ⟨gb203, 0, none⟩ = some (.int .i64 a0_0) := (blk_cell BK203.out 0).trans rfl
     have hcz10_1 : wr.cell? ⟨gb203, 1, none⟩ = some (.string a0_1) := (blk_cell BK203.out 1).trans rfl
     have hcz10_2 : wr.cell? ⟨gb203, 2, none⟩ = some (.int .i64 a0_2) := (blk_cell BK203.out 2).trans rfl
     have hcz10_3 : wr.cell? ⟨gb203, 3, none⟩ = some (.slice A0_3 l0_3.length c0_3) := (blk_cell BK203.out 3).trans rfl
     have hfz10_0 := blk_frozen BK203.out 0
     have hfz10_1 := blk_frozen BK203.out 1
     have hfz10_2 := blk_frozen BK203.out 2
     have hfz10_3 := blk_frozen BK203.out 3
     go_wp2
     go_ret
     exact ⟨by first | rfl | (simp [errW_none, errW_some] <;> rfl) | (simp [*, errW_none, errW_some] <;> rfl), by repeat (first | (with_reducible first | exact HB.out | apply below_alloc | apply pw_below_drewN | apply below_drew1 | refine below_set ?_ GE203.out) | exact HB.out)⟩
   ·
    rw [if_neg c4] at H
    have c4b0 : decide (x5_1 < (l0_3.length : Int)) = false := decide_eq_false c4
    clear c4
    obtain rfl := Option.some.inj H
    have hcz11_0 : wr.cell? ⟨gb203, 0, none⟩ = some (.int .i64 a0_0) := (blk_cell BK203.out 0).trans rfl
    have hcz11_1 : wr.cell? ⟨gb203, 1, none⟩ = some (.string a0_1) := (blk_cell BK203.out 1).trans rfl
    have hcz11_2 : wr.cell? ⟨gb203, 2, none⟩ = some (.int .i64 a0_2) := (blk_cell BK203.out 2).trans rfl
    have hcz11_3 : wr.cell? ⟨gb203, 3, none⟩ = some (.slice A0_3 l0_3.length c0_3) := (blk_cell BK203.out 3).trans rfl
    have hfz11_0 := blk_frozen BK203.out 0
    have hfz11_1 := blk_frozen BK203.out 1
    have hfz11_2 := blk_frozen BK203.out 2
    have hfz11_3 := blk_frozen BK203.out 3
    go_wp2
    go_ret
    exact ⟨by first | rfl | (simp [errW_none, errW_some] <;> rfl) | (simp [*, errW_none, errW_some] <;> rfl), by repeat (first | (with_reducible first | exact HB.out | apply below_alloc | apply pw_below_drewN | apply below_drew1 | refine below_set ?_ GE203.out) | exact HB.out)⟩
end Go.Proofs.YtagkhoeidjlahaaDoor.G
