-- Written by pack2.py, a program of this session: this session's texts and those that the kit's printer wrote for this claim, pruned to what the claims use.
import Derived.Test.YtagkhoeidjlahaaDoorCBp8
import Derived.Test.YtagkhoeidjlahaaDoorCBp10
import Derived.Test.YtagkhoeidjlahaaDoorCBp12
import Derived.Test.YtagkhoeidjlahaaDoorCBp2
namespace Go.Proofs.YtagkhoeidjlahaaDoor.G.Pure
open Go.Proofs.YtagkhoeidjlahaaDoorW.PrintWords Go.RowKit
set_option linter.unusedVariables false
set_option linter.unusedSimpArgs false
theorem okE_open {x : S68} (h : OkEntry x) : x.f0.size ≤ M := h.1
theorem ba_toList {x y : ByteArray} : x.toList = y.toList ↔ x = y := by
  rw [toList_L, toList_L]
  constructor
  · intro h; cases x; cases y; unfold L at h; simpa using h
  · rintro rfl; rfl
def tailB (s : ByteArray) (q : Int) : Bool := decide (1 ≤ s.size) && decide (s.size ≤ 16) && decide (0 ≤ q) && decide (q ≤ 7)
theorem rProper_l (s : ByteArray) (q : Int) (b1 b2 : Bool) (hs : s.size ≤ M) : ∀ (m i : Nat), s.size - i = m → Ev (fun k => vinculumref08_proper.l0 k i s q b1 b2) (!(((L s).drop i).any badB) && tailB s q) := by
  intro m
  induction m with
  | zero =>
    intro i hi
    refine Ev.step (fun k => by rw [vinculumref08_proper.l0]) ?_
    refine ev_if (fun h => by omega) fun _ => ?_
    rw [List.drop_eq_nil_of_le (by rw [L_length]; omega)]
    unfold tailB
    refine ev_if (fun h1 => ?_) fun h1 => ev_now ?_
    · refine ev_if (fun h2 => ?_) fun h2 => ev_now ?_
      · refine ev_if (fun h3 => ev_now ?_) fun h3 => ev_now ?_
        · rw [decide_eq_true (show 1 ≤ s.size by omega), decide_eq_true (show s.size ≤ 16 by omega), decide_eq_true (show 0 ≤ q by omega)]; rfl
        · rw [decide_eq_false (show ¬ 0 ≤ q by omega)]; simp
      · rw [decide_eq_false (show ¬ s.size ≤ 16 by omega)]; simp
    · rw [decide_eq_false (show ¬ 1 ≤ s.size by omega)]; simp
  | succ m ih =>
    intro i hi
    unfold M at hs
    refine Ev.step (fun k => by rw [vinculumref08_proper.l0]) ?_
    refine ev_if (fun _ => ?_) fun h => by omega
    refine ev_if (fun _ => ?_) fun h => by omega
    rw [List.drop_eq_getElem_cons (by rw [L_length]; omega), List.any_cons, bt_L s i (by omega)]
    refine ev_if (fun h => ev_now ?_) fun h1 => ?_
    · rw [show badB ((L s)[i]'(by rw [L_length]; omega)) = true by unfold badB badC; rw [decide_eq_true h]; rfl]; rfl
    refine ev_if (fun h => ev_now ?_) fun h2 => ?_
    · rw [show badB ((L s)[i]'(by rw [L_length]; omega)) = true by unfold badB badC; rw [decide_eq_true (gt_iff_lt.1 h)]; simp]; rfl
    · rw [show badB ((L s)[i]'(by rw [L_length]; omega)) = false by unfold badB badC; rw [decide_eq_false h1, decide_eq_false (fun e => h2 (gt_iff_lt.2 e))]; rfl, Bool.false_or, wr (n := (i : Int) + 1) (by omega)]
      have := ih (i + 1) (by omega)
      exact_mod_cast this
theorem properB_eq (s : ByteArray) (q : Int) : properB s q = (!((L s).any badB) && tailB s q) := by
  unfold properB tailB L
  rw [Bool.eq_iff_iff]
  simp only [Bool.and_eq_true, decide_eq_true_eq]
  constructor
  · rintro ⟨⟨⟨⟨a, b⟩, c⟩, d⟩, e⟩; exact ⟨c, ⟨⟨a, b⟩, d⟩, e⟩
  · rintro ⟨c, ⟨⟨a, b⟩, d⟩, e⟩; exact ⟨⟨⟨⟨a, b⟩, c⟩, d⟩, e⟩
theorem rProper_ev (s : ByteArray) (q : Int) (b1 b2 : Bool) (hs : s.size ≤ M) : Ev (fun k => vinculumref08_proper.f k s q b1 b2) (properB s q) := by
  have := rProper_l s q b1 b2 hs s.size 0 rfl
  rw [properB_eq]
  simpa [vinculumref08_proper.f] using this
theorem dupFree_iff : ∀ (l : List ByteArray), dupFree l = true ↔ l.Pairwise (fun x y => ¬ x = y)
  | [] => by simp [dupFree]
  | x :: l => by
    rw [dupFree, List.pairwise_cons, ← dupFree_iff l, Bool.and_eq_true]
    refine and_congr_left fun _ => ?_
    simp only [Bool.not_eq_true', List.any_eq_false, decide_eq_true_eq]
    exact ⟨fun h y hy e => h y hy e.symm, fun h y hy e => h y hy e.symm⟩
theorem validD_iff (l : List S68) : validD l = true ↔ (∀ (a : Nat) (h : a < l.length), properB l[a].f0 l[a].f1 = true) ∧ l.length ≤ 200 ∧ ∀ (a b : Nat) (h : b < l.length) (hab : a < b), ¬ (l[a]'(by omega)).f0 = l[b].f0 := by
  unfold validD
  rw [Bool.and_eq_true, Bool.and_eq_true, decide_eq_true_eq, dupFree_iff, List.pairwise_map, List.pairwise_iff_getElem, List.all_eq_true, and_assoc]
  refine and_congr ⟨fun h a ha => h _ (List.getElem_mem ha), fun h x hx => ?_⟩ (and_congr_right fun _ => ⟨fun h a b hb hab => h a b (by omega) hb hab, fun h a b _ hb hab => h a b hb hab⟩)
  obtain ⟨a, ha, rfl⟩ := List.getElem_of_mem hx
  exact h a ha
theorem rValid08_ev (l : List S68) (hl : l.length ≤ 1000000) (ho : ∀ x ∈ l, OkEntry x) : Ev (fun k => vinculumref08_Valid.f k l) (validD l) := by
  have key : ∀ (m i : Nat), l.length - i = m → i ≤ l.length → (∀ (a : Nat) (h : a < l.length), a < i → properB l[a].f0 l[a].f1 = true) → (∀ (a b : Nat) (h : b < l.length) (hab : a < b), b < i → ¬ (l[a]'(by omega)).f0 = l[b].f0) → Ev (fun k => vinculumref08_Valid.l0 k l i) (validD l) := by
    intro m
    induction m with
    | zero =>
      intro i hi hle hp hd
      refine Ev.step (fun k => by rw [vinculumref08_Valid.l0]) ?_
      refine ev_if (fun h => by omega) fun _ => ev_now ?_
      rw [Bool.eq_iff_iff, decide_eq_true_eq, validD_iff]
      exact ⟨fun h => ⟨fun a ha => hp a ha (by omega), by omega, fun a b hb hab => hd a b hb hab (by omega)⟩, fun h => by have := h.2.1; omega⟩
    | succ m ih =>
      intro i hi hle hp hd
      have hlt : i < l.length := by omega
      refine Ev.step (fun k => by rw [vinculumref08_Valid.l0]) ?_
      refine ev_if (fun _ => ?_) fun h => by omega
      refine ev_if (fun _ => ?_) fun h => by omega
      rw [rdE hlt]
      refine ev_bind (rProper_ev _ _ _ _ (okE_open (ho _ (List.getElem_mem hlt)))) ?_
      refine ev_if (fun hpi => ?_) fun hpi => ev_now ?_
      · have inner : ∀ (m' j : Nat), i - j = m' → j ≤ i → (∀ (a : Nat) (h : a < i), a < j → ¬ (l[a]'(by omega)).f0 = l[i].f0) → Ev (fun k => vinculumref08_Valid.l1 k l i j) (validD l) := by
          intro m'
          induction m' with
          | zero =>
            intro j hj hji hn
            refine Ev.step (fun k => by rw [vinculumref08_Valid.l1]) ?_
            refine ev_if (fun h => by omega) fun _ => ?_
            rw [wr (n := (i : Int) + 1) (by omega)]
            have := ih (i + 1) (by omega) (by omega) (fun a h ha => by
              rcases Nat.lt_or_ge a i with h1 | h1
              · exact hp a h h1
              · obtain rfl : a = i := by omega
                exact hpi) (fun a b hb hab hbi => by
              rcases Nat.lt_or_ge b i with h1 | h1
              · exact hd a b hb hab h1
              · obtain rfl : b = i := by omega
                exact hn a hab (by omega))
            exact_mod_cast this
          | succ m' ih' =>
            intro j hj hji hn
            refine Ev.step (fun k => by rw [vinculumref08_Valid.l1]) ?_
            refine ev_if (fun _ => ?_) fun h => by omega
            refine ev_if (fun _ => ?_) fun h => by omega
            refine ev_if (fun _ => ?_) fun h => by omega
            refine ev_if (fun _ => ?_) fun h => by omega
            refine ev_if (fun _ => ?_) fun h => by omega
            rw [rdE hlt, rdE (show j < l.length by omega)]
            refine ev_if (fun he => ev_now ?_) fun he => ?_
            · refine (Bool.eq_false_iff.2 fun hv => ?_).symm
              exact ((validD_iff l).1 hv).2.2 j i hlt (by omega) (ba_toList.1 he)
            · rw [wr (n := (j : Int) + 1) (by omega)]
              have := ih' (j + 1) (by omega) (by omega) (fun a h ha => by
                rcases Nat.lt_or_ge a j with h1 | h1
                · exact hn a h h1
                · obtain rfl : a = j := by omega
                  exact fun e => he (ba_toList.2 e))
              exact_mod_cast this
        exact_mod_cast inner i 0 rfl (by omega) (fun a h ha => by omega)
      · refine (Bool.eq_false_iff.2 fun hv => ?_).symm
        exact hpi (((validD_iff l).1 hv).1 i hlt)
  exact_mod_cast key l.length 0 rfl (by omega) (fun a h ha => by omega) (fun a b hb hab h => by omega)
theorem pValid08_eq (l : List S68) (hl : l.length ≤ 1000000) : opdict_Valid.f l = some (validD l) := by
  unfold opdict_Valid.f
  rw [if_pos (by omega)]
def findT (t : ByteArray) : List S68 → ByteArray × Int × Bool × Bool
  | [] => (t, 0, false, false)
  | x :: l => if x.f0.toList = t.toList then (x.f0, x.f1, x.f2, x.f3) else findT t l
theorem idx_find (t : ByteArray) : ∀ (l : List S68) (i : Int), (idxE t l i = -1 ∧ findT t l = (t, 0, false, false)) ∨ ∃ (j : Nat) (h : j < l.length), idxE t l i = i + j ∧ findT t l = (l[j].f0, l[j].f1, l[j].f2, l[j].f3)
  | [], i => .inl ⟨rfl, rfl⟩
  | x :: l, i => by
    unfold idxE findT
    by_cases h : x.f0.toList = t.toList
    · rw [if_pos h, if_pos h]
      exact .inr ⟨0, by simp, by simp, rfl⟩
    · rw [if_neg h, if_neg h]
      rcases idx_find t l (i + 1) with ⟨h1, h2⟩ | ⟨j, hj, h1, h2⟩
      · exact .inl ⟨h1, h2⟩
      · exact .inr ⟨j + 1, by simpa using hj, by rw [h1]; push_cast; omega, by simpa using h2⟩
theorem pFind_eq (l : List S68) (t : ByteArray) (hl : l.length ≤ 1000000) : opdict_Find.f l t = some (findT t l) := by
  unfold opdict_Find.f opdict_index.f
  rw [if_pos (by omega), Option.bind_some]
  rcases idx_find t l 0 with ⟨h1, h2⟩ | ⟨j, hj, h1, h2⟩
  · rw [h1, h2, if_neg (by omega)]
  · rw [h1, h2, if_pos (by omega), if_pos (by omega), if_pos (by omega), Int.zero_add, rdE hj]
theorem rFind_ev (l : List S68) (t : ByteArray) (hl : l.length ≤ 1000000) : Ev (fun k => vinculumref08_Find.f k l t) (findT t l) := by
  have key : ∀ (m i : Nat), l.length - i = m → Ev (fun k => vinculumref08_Find.l0 k l t i) (findT t (l.drop i)) := by
    intro m
    induction m with
    | zero =>
      intro i hi
      refine Ev.step (fun k => by rw [vinculumref08_Find.l0]) ?_
      refine ev_if (fun h => by omega) fun _ => ev_now ?_
      rw [List.drop_eq_nil_of_le (by omega)]; rfl
    | succ m ih =>
      intro i hi
      refine Ev.step (fun k => by rw [vinculumref08_Find.l0]) ?_
      refine ev_if (fun _ => ?_) fun h => by omega
      refine ev_if (fun _ => ?_) fun h => by omega
      rw [List.drop_eq_getElem_cons (by omega), findT, rdE (by omega)]
      refine ev_if (fun h => ev_now ?_) fun h => ?_
      · rw [if_pos h]
      · rw [if_neg h, wr (n := (i : Int) + 1) (by omega)]
        exact_mod_cast ih (i + 1) (by omega)
  exact_mod_cast key l.length 0 rfl
theorem cnt_slot {x : S36} (h : 0 < x.f3.length) (h1 : (rd_T36 x.f3 0).f3.length = 1) : cnt (rd_T36 (rd_T36 x.f3 0).f3 0) < cnt x := by
  have e0 : rd_T36 x.f3 0 = x.f3[0] := rdT_at x.f3 0 h
  rw [e0] at h1 ⊢
  have e1 : rd_T36 x.f3[0].f3 0 = x.f3[0].f3[0] := rdT_at _ 0 (by omega)
  rw [e1, cnt_eq x]
  have a := cntL_mem (List.getElem_mem h)
  have b := cntL_mem (List.getElem_mem (show 0 < x.f3[0].f3.length by omega))
  rw [cnt_eq x.f3[0]] at a
  omega
theorem cls_some (d : List S68) (hd : d.length ≤ 1000000) : ∀ (n : Nat) (x : S36), cnt x < n → ∃ v, cls d n x = some v := by
  intro n
  induction n with
  | zero => intro x h; omega
  | succ n ih =>
    intro x hn
    rw [cls, pFind_eq _ _ hd]
    by_cases h2 : x.f0 = 2
    · rw [if_pos h2]; exact ⟨_, rfl⟩
    rw [if_neg h2]
    by_cases h7 : x.f0 = 7 ∨ x.f0 = 8 ∨ x.f0 = 9
    · rw [if_pos h7]
      by_cases hl : 0 < x.f3.length
      · rw [if_pos hl]
        by_cases h1 : (rd_T36 x.f3 0).f3.length = 1
        · rw [if_pos h1]
          exact ih _ (by have := cnt_slot hl h1; omega)
        · rw [if_neg h1]; exact ⟨_, rfl⟩
      · rw [if_neg hl]; exact ⟨_, rfl⟩
    rw [if_neg h7]
    by_cases h5 : x.f0 = 5 ∨ x.f0 = 11 ∨ x.f0 = 12
    · rw [if_pos h5]; exact ⟨_, rfl⟩
    · rw [if_neg h5]; exact ⟨_, rfl⟩
theorem cls_le (d : List S68) {n m : Nat} {x : S36} {v : Int} (h : n ≤ m) (hv : cls d n x = some v) : cls d m x = some v := at_rounds (fun k => cls.mono d k x) h hv
def classV (d : List S68) (x : S36) : Int := (cls d (cnt x + 1) x).getD 0
theorem cls_fuel (d : List S68) (hd : d.length ≤ 1000000) {n : Nat} {x : S36} (h : cnt x < n) : cls d n x = some (classV d x) := by
  obtain ⟨v, hv⟩ := cls_some d hd (cnt x + 1) x (by omega)
  unfold classV
  rw [hv]
  exact cls_le d h hv
theorem classV_eq (d : List S68) (hd : d.length ≤ 1000000) (x : S36) : classV d x = if x.f0 = 2 then (findT x.f1 d).2.1 else if x.f0 = 7 ∨ x.f0 = 8 ∨ x.f0 = 9 then (if 0 < x.f3.length then (if (rd_T36 x.f3 0).f3.length = 1 then classV d (rd_T36 (rd_T36 x.f3 0).f3 0) else 0) else 0) else if x.f0 = 5 ∨ x.f0 = 11 ∨ x.f0 = 12 then 7 else 0 := by
  have h := cls_fuel d hd (show cnt x < cnt x + 1 by omega)
  apply Option.some.inj
  rw [← h, cls, pFind_eq _ _ hd]
  by_cases h2 : x.f0 = 2
  · rw [if_pos h2, if_pos h2]; rfl
  rw [if_neg h2, if_neg h2]
  by_cases h7 : x.f0 = 7 ∨ x.f0 = 8 ∨ x.f0 = 9
  · rw [if_pos h7, if_pos h7]
    by_cases hl : 0 < x.f3.length
    · rw [if_pos hl, if_pos hl]
      by_cases h1 : (rd_T36 x.f3 0).f3.length = 1
      · rw [if_pos h1, if_pos h1]
        exact cls_fuel d hd (cnt_slot hl h1)
      · rw [if_neg h1, if_neg h1]
    · rw [if_neg hl, if_neg hl]
  rw [if_neg h7, if_neg h7]
  by_cases h5 : x.f0 = 5 ∨ x.f0 = 11 ∨ x.f0 = 12
  · rw [if_pos h5, if_pos h5]
  · rw [if_neg h5, if_neg h5]
theorem pClass_ev (d : List S68) (hd : d.length ≤ 1000000) (x : S36) : Ev (fun k => atom_Class.f k d x.f0 x.f1 x.f2 x.f3) (classV d x) := by
  refine Ev.congr (f := fun k => cls d k x) (fun k => by unfold atom_Class.f; rw [node_eta]) ?_
  exact ⟨cnt x + 1, fun k hk => cls_fuel d hd (by omega)⟩
theorem rClass_ev (d : List S68) (hd : d.length ≤ 1000000) : ∀ (n : Nat) (x : S36), cnt x ≤ n → Ev (fun k => vinculumref26_Class.f k d x.f0 x.f1 x.f2 x.f3) (classV d x) := by
  intro n
  induction n with
  | zero => intro x h; have := cnt_pos x; omega
  | succ n ih =>
    intro x hn
    have slot : Ev (fun k => vinculumref26_Class.j0 k d x.f0 true x.f0 x.f1 x.f2 x.f3) (if 0 < x.f3.length then (if (rd_T36 x.f3 0).f3.length = 1 then classV d (rd_T36 (rd_T36 x.f3 0).f3 0) else 0) else 0) := by
      refine Ev.step (fun k => by rw [vinculumref26_Class.j0]) ?_
      refine ev_if (fun _ => ?_) fun h => absurd rfl h
      refine ev_if (fun hl => ?_) fun hl => ev_now (by rw [if_neg (by omega)])
      refine ev_if (fun _ => ?_) fun h => by omega
      rw [if_pos (show 0 < x.f3.length by omega)]
      refine ev_if (fun h1 => ?_) fun h1 => ev_now (by rw [if_neg (by omega)])
      refine ev_if (fun _ => ?_) fun h => by omega
      rw [if_pos (by omega)]
      exact ev_bind (ih _ (by have := cnt_slot (x := x) (by omega) (by omega); omega)) (Ev.now _)
    have e := classV_eq d hd x
    refine Ev.step (fun k => by rw [vinculumref26_Class.f]) ?_
    refine ev_if (fun h2 => ?_) fun h2 => ?_
    · rw [e, if_pos h2]
      exact ev_bind (rFind_ev d x.f1 hd) (Ev.now _)
    rw [if_neg h2] at e
    by_cases h7 : x.f0 = 7 ∨ x.f0 = 8 ∨ x.f0 = 9
    · rw [if_pos h7] at e
      rw [e]
      refine ev_if (fun h => ?_) fun h => ?_
      · rw [show (x.f0 == 7) = true by simpa using h]; exact slot
      refine ev_if (fun h' => ?_) fun h' => ?_
      · rw [show (x.f0 == 8) = true by simpa using h']; exact slot
      · rw [show (x.f0 == 9) = true by simp; omega]; exact slot
    rw [if_neg h7] at e
    rw [e]
    refine ev_if (fun h => by omega) fun _ => ?_
    refine ev_if (fun h => by omega) fun _ => ?_
    rw [show (x.f0 == 9) = false by simp; omega]
    refine Ev.step (fun k => by rw [vinculumref26_Class.j0]) ?_
    refine ev_if (fun h => by cases h) fun _ => ?_
    refine ev_if (fun h => ev_now (by rw [if_pos (.inl h)])) fun h5 => ?_
    refine ev_if (fun h => ev_now (by rw [if_pos (.inr (.inl h))])) fun h11 => ?_
    refine ev_if (fun h => ev_now (by rw [if_pos (.inr (.inr h))])) fun h12 => ev_now ?_
    rw [if_neg (by omega)]
end Go.Proofs.YtagkhoeidjlahaaDoor.G.Pure
namespace Go.Proofs.YtagkhoeidjlahaaDoor.G.Pure
open Go.Proofs.YtagkhoeidjlahaaDoorW.PrintWords Go.RowKit
set_option linter.unusedVariables false
set_option linter.unusedSimpArgs false
def opB (c : Int) : Bool := c == 2 || c == 1 || c == 3 || c == 4 || c == 6
def clB (c : Int) : Bool := c == 3 || c == 5 || c == 6
def lastI (out : List Int) : Int := rd out ((out.length : Int) - 1)
def stepF (out : List Int) (c : Int) : List Int := if clB c = true ∧ 0 < out.length ∧ lastI out = 2 then out.set (out.length - 1) 0 ++ [c] else out ++ [c]
def stepP (out : List Int) (c : Int) : List Int := if c = 2 then (if out.length = 0 ∨ opB (lastI out) = true then out ++ [0] else out ++ [c]) else stepF out c
def finP (out : List Int) : List Int := if 0 < out.length ∧ lastI out = 2 then out.set (out.length - 1) 0 else out
def clsR (vs : List Int) : List Int := finP (vs.foldl stepP [])
theorem rdI_at (l : List Int) (i : Nat) (h : i < l.length) : rd l i = l[i] := by simp [rd, h]
theorem rd_app (a b : List Int) (i : Int) (h0 : 0 ≤ i) (h : i < a.length) : rd (a ++ b) i = rd a i := by
  obtain ⟨n, rfl⟩ := Int.eq_ofNat_of_zero_le h0
  rw [show ((n : Nat) : Int) = (n : Int) from rfl]
  have h' : n < a.length := by omega
  rw [rdI_at _ n (by simp; omega), rdI_at _ n h', List.getElem_append_left h']
theorem rd_mid (a : List Int) (c : Int) (b : List Int) : rd (a ++ c :: b) a.length = c := by
  rw [rdI_at _ a.length (by simp)]
  simp
theorem stepF_len (out : List Int) (c : Int) : (stepF out c).length = out.length + 1 := by
  unfold stepF
  split <;> simp
theorem stepP_len (out : List Int) (c : Int) : (stepP out c).length = out.length + 1 := by
  unfold stepP
  split
  · split <;> simp
  · exact stepF_len _ _
theorem fold_len (vs : List Int) : ∀ out : List Int, (vs.foldl stepP out).length = out.length + vs.length := by
  induction vs with
  | nil => intro out; rfl
  | cons v vs ih => intro out; rw [List.foldl_cons, ih, stepP_len, List.length_cons]; omega
theorem fin_len (out : List Int) : (finP out).length = out.length := by
  unfold finP
  split <;> simp
theorem clsR_len (vs : List Int) : (clsR vs).length = vs.length := by
  unfold clsR
  rw [fin_len, fold_len]; simp
theorem in_l (c : Int) (l : List Int) (hl : l.length ≤ 100) : ∀ (m i : Nat), l.length - i = m → Ev (fun k => atom_in.l0 k c l l.length i) ((l.drop i).any fun x => x == c) := by
  intro m
  induction m with
  | zero =>
    intro i hi
    refine Ev.step (fun k => by rw [atom_in.l0]) ?_
    refine ev_if (fun h => by omega) fun _ => ev_now ?_
    rw [List.drop_eq_nil_of_le (by omega)]; rfl
  | succ m ih =>
    intro i hi
    refine Ev.step (fun k => by rw [atom_in.l0]) ?_
    refine ev_if (fun _ => ?_) fun h => by omega
    refine ev_if (fun _ => ?_) fun h => by omega
    refine ev_if (fun _ => ?_) fun h => by omega
    rw [List.drop_eq_getElem_cons (by omega), List.any_cons, rdI_at _ i (by omega)]
    refine ev_if (fun h => ev_now ?_) fun h => ?_
    · rw [beq_iff_eq.2 h]; rfl
    · rw [beq_eq_false_iff_ne.2 h, Bool.false_or, wr (n := (i : Int) + 1) (by omega)]
      exact_mod_cast ih (i + 1) (by omega)
theorem in_ev (c : Int) (l : List Int) (hl : l.length ≤ 100) : Ev (fun k => atom_in.f k c l) (l.any fun x => x == c) := by
  have := in_l c l hl l.length 0 rfl
  exact_mod_cast this
theorem beqc (a b : Int) : (a == b) = (b == a) := by
  by_cases h : a = b
  · rw [h]
  · rw [beq_eq_false_iff_ne.2 h, beq_eq_false_iff_ne.2 (fun e => h e.symm)]
theorem inO_ev (c : Int) : Ev (fun k => atom_in.f k c [2, 1, 3, 4, 6]) (opB c) := by
  have := in_ev c [2, 1, 3, 4, 6] (by decide)
  rw [show ([2, 1, 3, 4, 6] : List Int).any (fun x => x == c) = opB c by unfold opB; simp only [List.any_cons, List.any_nil, Bool.or_false, beqc _ c, Bool.or_assoc]] at this
  exact this
theorem inC_ev (c : Int) : Ev (fun k => atom_in.f k c [3, 5, 6]) (clB c) := by
  have := in_ev c [3, 5, 6] (by decide)
  rw [show ([3, 5, 6] : List Int).any (fun x => x == c) = clB c by unfold clB; simp only [List.any_cons, List.any_nil, Bool.or_false, beqc _ c, Bool.or_assoc]] at this
  exact this
theorem opens_eq (c : Int) : vinculumref26_opens.f c = some (opB c) := by
  unfold vinculumref26_opens.f opB
  by_cases h1 : c = 2
  · simp [h1]
  by_cases h2 : c = 1
  · simp [h2]
  by_cases h3 : c = 3
  · simp [h3]
  by_cases h4 : c = 4
  · simp [h4]
  simp [h1, h2, h3, h4]
theorem closes_eq (c : Int) : vinculumref26_closes.f c = some (clB c) := by
  unfold vinculumref26_closes.f clB
  by_cases h1 : c = 3
  · simp [h1]
  by_cases h2 : c = 5
  · simp [h2]
  simp [h1, h2]
theorem pCls_l (d : List S68) (hd : d.length ≤ 1000000) (items : List S36) (hi : items.length ≤ 1000000) : ∀ (m : Nat) (out : List Int), items.length - out.length = m → out.length ≤ items.length → Ev (fun k => atom_Classes.l0 k d out items items.length out.length) (finP (((items.drop out.length).map (classV d)).foldl stepP out), 0) := by
  intro m
  induction m with
  | zero =>
    intro out ho hle
    rw [List.drop_eq_nil_of_le (by omega), List.map_nil, List.foldl_nil]
    refine Ev.step (fun k => by rw [atom_Classes.l0]) ?_
    refine ev_if (fun h => by omega) fun _ => ?_
    unfold finP lastI
    refine ev_if (fun h => ?_) fun h => ev_now (by rw [if_neg (by omega)])
    rw [wr (n := (out.length : Int) - 1) (by omega)]
    refine ev_if (fun _ => ?_) fun h => by omega
    refine ev_if (fun _ => ?_) fun h => by omega
    refine ev_if (fun h2 => ev_now ?_) fun h2 => ev_now ?_
    · rw [if_pos ⟨by omega, h2⟩, show ((out.length : Int) - 1).toNat = out.length - 1 by omega]
    · rw [if_neg (fun e => h2 e.2)]
  | succ m ih =>
    intro out ho hle
    have hlt : out.length < items.length := by omega
    rw [List.drop_eq_getElem_cons hlt, List.map_cons, List.foldl_cons]
    have nxt : ∀ o2 : List Int, o2.length = out.length + 1 → Ev (fun k => atom_Classes.l0 k d o2 items items.length ((out.length : Int) + 1)) (finP (((items.drop (out.length + 1)).map (classV d)).foldl stepP o2), 0) := fun o2 h2 => by
      have := ih o2 (by omega) (by omega)
      rw [h2] at this
      exact_mod_cast this
    generalize hc : classV d items[out.length] = c
    refine Ev.step (fun k => by rw [atom_Classes.l0]) ?_
    refine ev_if (fun _ => ?_) fun h => by omega
    refine ev_if (fun _ => ?_) fun h => by omega
    refine ev_if (fun _ => ?_) fun h => by omega
    rw [rdT_at items out.length hlt]
    refine ev_bind (pClass_ev d hd items[out.length]) ?_
    rw [hc, wr (n := (out.length : Int) + 1) (by omega), wr (n := (out.length : Int) - 1) (by omega)]
    unfold stepP
    refine ev_if (fun h2 => ?_) fun h2 => ?_
    · rw [if_pos h2]
      refine ev_if (fun h0 => ?_) fun h0 => ?_
      · refine ev_if (fun _ => ?_) fun h => by omega
        rw [if_pos (.inl (by omega))]
        exact nxt _ (by simp)
      · refine ev_if (fun _ => ?_) fun h => by omega
        refine ev_if (fun _ => ?_) fun h => by omega
        refine ev_bind (inO_ev _) ?_
        refine ev_if (fun hb => ?_) fun hb => ?_
        · refine ev_if (fun _ => ?_) fun h => by omega
          rw [if_pos (.inr hb)]
          exact nxt _ (by simp)
        · refine ev_if (fun _ => ?_) fun h => by omega
          rw [if_neg (fun e => e.elim (fun h => by omega) fun h => hb h)]
          exact nxt _ (by simp)
    · rw [if_neg h2]
      unfold stepF
      refine ev_bind (inC_ev _) ?_
      refine ev_if (fun hb => ?_) fun hb => ?_
      · refine ev_if (fun h0 => ?_) fun h0 => ?_
        · refine ev_if (fun _ => ?_) fun h => by omega
          refine ev_if (fun _ => ?_) fun h => by omega
          refine ev_if (fun hl => ?_) fun hl => ?_
          · simp only [Option.bind_some]
            refine ev_if (fun _ => ?_) fun h => by rw [List.length_set] at h; omega
            rw [if_pos ⟨hb, by omega, hl⟩, show ((out.length : Int) - 1).toNat = out.length - 1 by omega]
            exact nxt _ (by simp)
          · refine ev_if (fun _ => ?_) fun h => by omega
            rw [if_neg (fun e => hl e.2.2)]
            exact nxt _ (by simp)
        · refine ev_if (fun _ => ?_) fun h => by omega
          rw [if_neg (fun e => by omega)]
          exact nxt _ (by simp)
      · refine ev_if (fun _ => ?_) fun h => by omega
        rw [if_neg (fun e => hb e.1)]
        exact nxt _ (by simp)
theorem rRow_l : ∀ (rest : List Int) (out : List Int), out.length + rest.length ≤ 1000000 → Ev (fun k => vinculumref26_Row.l0 k (out ++ rest) out.length) (finP (rest.foldl stepP out)) := by
  intro rest
  induction rest with
  | nil =>
    intro out hl
    rw [List.append_nil, List.foldl_nil]
    refine Ev.step (fun k => by rw [vinculumref26_Row.l0]) ?_
    refine ev_if (fun h => by omega) fun _ => ?_
    unfold finP lastI
    rw [wr (n := (out.length : Int) - 1) (by omega)]
    refine ev_if (fun h => ?_) fun h => ev_now (by rw [if_neg (by omega)])
    refine ev_if (fun _ => ?_) fun h => by omega
    refine ev_if (fun _ => ?_) fun h => by omega
    refine ev_if (fun h2 => ev_now ?_) fun h2 => ev_now ?_
    · rw [if_pos ⟨by omega, h2⟩, show ((out.length : Int) - 1).toNat = out.length - 1 by omega]
    · rw [if_neg (fun e => h2 e.2)]
  | cons c rest ih =>
    intro out hl
    rw [List.length_cons] at hl
    rw [List.foldl_cons]
    have hlen : ((out ++ c :: rest).length : Int) = out.length + rest.length + 1 := by simp; omega
    have nxt : ∀ o2 : List Int, o2.length = out.length + 1 → Ev (fun k => vinculumref26_Row.l0 k (o2 ++ rest) ((out.length : Int) + 1)) (finP (rest.foldl stepP o2)) := fun o2 h2 => by
      have := ih o2 (by omega)
      rw [h2] at this
      exact_mod_cast this
    have h1 : 0 < out.length → rd (out ++ c :: rest) ((out.length : Int) - 1) = lastI out := fun h => by
      unfold lastI
      rw [rd_app _ _ _ (by omega) (by omega)]
    have jf : Ev (fun k => vinculumref26_Row.j1 k (out ++ c :: rest) out.length false) (finP (rest.foldl stepP (stepF out c))) := by
      refine Ev.step (fun k => by rw [vinculumref26_Row.j1]) ?_
      refine ev_if (fun h => by cases h) fun _ => ?_
      refine ev_if (fun _ => ?_) fun h => by omega
      refine ev_if (fun _ => ?_) fun h => by omega
      rw [rd_mid, closes_eq, wr (n := (out.length : Int) + 1) (by omega), wr (n := (out.length : Int) - 1) (by omega)]
      have plain : Ev (fun k => vinculumref26_Row.l0 k (out ++ c :: rest) ((out.length : Int) + 1)) (finP (rest.foldl stepP (out ++ [c]))) := by
        have := nxt (out ++ [c]) (by simp)
        simpa using this
      simp only [Option.bind_some]
      unfold stepF
      refine ev_if (fun hb => ?_) fun hb => ?_
      · refine ev_if (fun h0 => ?_) fun h0 => ?_
        · refine ev_if (fun _ => ?_) fun h => by omega
          refine ev_if (fun _ => ?_) fun h => by omega
          rw [h1 (by omega)]
          refine ev_if (fun h2 => ?_) fun h2 => ?_
          · rw [if_pos ⟨hb, by omega, h2⟩]
            have := nxt (out.set (out.length - 1) 0 ++ [c]) (by simp)
            rw [show ((out.length : Int) - 1).toNat = out.length - 1 by omega, List.set_append_left _ _ (by omega)]
            simpa using this
          · rw [if_neg (fun e => h2 e.2.2)]; exact plain
        · rw [if_neg (fun e => by omega)]; exact plain
      · rw [if_neg (fun e => hb e.1)]; exact plain
    have jt : Ev (fun k => vinculumref26_Row.j1 k (out ++ c :: rest) out.length true) (finP (rest.foldl stepP (out ++ [0]))) := by
      refine Ev.step (fun k => by rw [vinculumref26_Row.j1]) ?_
      refine ev_if (fun _ => ?_) fun h => absurd rfl h
      refine ev_if (fun _ => ?_) fun h => by omega
      refine ev_if (fun _ => ?_) fun h => by omega
      rw [wr (n := (out.length : Int) + 1) (by omega)]
      have := nxt (out ++ [0]) (by simp)
      rw [show ((out.length : Int)).toNat = out.length by omega, show (out ++ c :: rest).set out.length 0 = out ++ 0 :: rest by simp]
      simpa using this
    refine Ev.step (fun k => by rw [vinculumref26_Row.l0]) ?_
    refine ev_if (fun _ => ?_) fun h => by omega
    refine ev_if (fun _ => ?_) fun h => by omega
    rw [rd_mid, wr (n := (out.length : Int) - 1) (by omega)]
    unfold stepP
    refine ev_if (fun h2 => ?_) fun h2 => ?_
    · rw [if_pos h2]
      refine ev_if (fun h0 => ?_) fun h0 => ?_
      · rw [if_pos (.inl (by omega))]; exact jt
      · refine ev_if (fun _ => ?_) fun h => by omega
        refine ev_if (fun _ => ?_) fun h => by omega
        rw [h1 (by omega), opens_eq]
        simp only [Option.bind_some]
        cases hb : opB (lastI out) with
        | true => rw [if_pos (.inr rfl)]; exact jt
        | false =>
          rw [if_neg (fun e => e.elim (fun h => by omega) fun h => by cases h)]
          have e : stepF out c = out ++ [c] := by
            unfold stepF
            rw [if_neg (fun e => by have := e.1; rw [h2] at this; cases this)]
          rw [← e]; exact jf
    · rw [if_neg h2]; exact jf
theorem rRow_ev (vs : List Int) (hl : vs.length ≤ 1000000) : Ev (fun k => vinculumref26_Row.f k vs) (clsR vs) := by
  unfold vinculumref26_Row.f
  simp only [Option.bind_some, List.nil_append, List.length_nil, Nat.zero_add]
  refine ev_if (fun _ => ?_) fun h => by omega
  have := rRow_l vs [] (by simpa using hl)
  simpa [clsR] using this
theorem rCls_l (d : List S68) (hd : d.length ≤ 1000000) (items : List S36) (hi : items.length ≤ 1000000) : ∀ (m i : Nat) (acc : List Int), items.length - i = m → i ≤ items.length → acc.length = i → Ev (fun k => vinculumref26_Classes.l0 k d items acc i) (clsR (acc ++ (items.drop i).map (classV d)), 0) := by
  intro m
  induction m with
  | zero =>
    intro i acc h1 h2 h3
    rw [List.drop_eq_nil_of_le (by omega), List.map_nil, List.append_nil]
    refine Ev.step (fun k => by rw [vinculumref26_Classes.l0]) ?_
    refine ev_if (fun h => by omega) fun _ => ?_
    exact ev_bind (rRow_ev acc (by omega)) (Ev.now _)
  | succ m ih =>
    intro i acc h1 h2 h3
    refine Ev.step (fun k => by rw [vinculumref26_Classes.l0]) ?_
    refine ev_if (fun _ => ?_) fun h => by omega
    refine ev_if (fun _ => ?_) fun h => by omega
    rw [rdT_at items i (by omega)]
    refine ev_bind (rClass_ev d hd _ items[i] (Nat.le_refl _)) ?_
    refine ev_if (fun _ => ?_) fun h => by omega
    rw [wr (n := (i : Int) + 1) (by omega), List.drop_eq_getElem_cons (show i < items.length by omega), List.map_cons]
    have := ih (i + 1) (acc ++ [classV d items[i]]) (by omega) (by omega) (by simp; omega)
    rw [List.append_assoc, List.singleton_append] at this
    exact_mod_cast this
def rowN (items : List S36) : S36 := ⟨1, ⟨#[]⟩, 0, items⟩
theorem rowN_ok {items : List S36} (h : OkL OkNode items) : OkNode (rowN items) := OkNode.mk _ (show OkI .i64 1 by unfold OkI; decide) (show OkS ⟨#[]⟩ by unfold OkS; decide) (show OkI .i64 0 by unfold OkI; decide) h.1 h.2
def clsB (d : List S68) (items : List S36) : List Int × Int := if (validD d && validB (rowN items)) = true then (clsR (items.map (classV d)), 0) else ([], 1)
theorem len_cnt (items : List S36) : items.length < cnt (rowN items) := by
  rw [cnt_eq]
  have : ∀ l : List S36, l.length ≤ cntL l := by
    intro l
    induction l with
    | nil => simp [cntL]
    | cons x l ih => rw [cntL, List.length_cons]; have := cnt_pos x; omega
  have := this items
  show items.length < 1 + cntL items
  omega
theorem pItems_ev (items : List S36) (h : OkL OkNode items) : Ev (fun k => node_ValidItems.f k items) (validB (rowN items)) := by
  unfold node_ValidItems.f
  exact ev_bind (nValid_ev (rowN items) (rowN_ok h)) (Ev.now _)
theorem rItems_ev (items : List S36) (h : OkL OkNode items) (hc : cnt (rowN items) ≤ 1000000) : Ev (fun k => vinculumref09_ValidItems.f k items) (validB (rowN items)) := by
  unfold vinculumref09_ValidItems.f vinculumref09_ToRow.f
  simp only [Option.bind_some]
  exact ev_bind (rValid_ev (rowN items) (rowN_ok h) hc) (Ev.now _)
theorem pClasses_ev (d : List S68) (items : List S36) (hd : d.length ≤ 1000000) (h : OkL OkNode items) (hi : items.length ≤ 1000000) : Ev (fun k => atom_Classes.f k d items) (clsB d items) := by
  have jt : Ev (fun k => atom_Classes.j0 k d items true) (([] : List Int), (1 : Int)) := Ev.step (fun k => by rw [atom_Classes.j0]) (ev_if (fun _ => Ev.now _) fun h => absurd rfl h)
  have jf : Ev (fun k => atom_Classes.j0 k d items false) (clsR (items.map (classV d)), (0 : Int)) := by
    refine Ev.step (fun k => by rw [atom_Classes.j0]) ?_
    refine ev_if (fun h => by cases h) fun _ => ?_
    have := pCls_l d hd items hi items.length [] (by simp) (by simp)
    simpa [clsR] using this
  unfold atom_Classes.f clsB
  rw [pValid08_eq d hd]
  simp only [Option.bind_some]
  refine ev_if (fun hv => ?_) fun hv => ?_
  · rw [hv, Bool.true_and]
    refine ev_bind (pItems_ev items h) ?_
    cases hb : validB (rowN items) with
    | true => rw [if_pos rfl]; exact jf
    | false => rw [if_neg (by simp)]; exact jt
  · rw [Bool.not_eq_true] at hv
    rw [hv, Bool.false_and, if_neg (by simp)]; exact jt
theorem rClasses_ev (d : List S68) (items : List S36) (hd : d.length ≤ 1000000) (ho : ∀ x ∈ d, OkEntry x) (h : OkL OkNode items) (hc : cnt (rowN items) ≤ 1000000) : Ev (fun k => vinculumref26_Classes.f k d items) (clsB d items) := by
  have jt : Ev (fun k => vinculumref26_Classes.j0 k d items true) (([] : List Int), (1 : Int)) := Ev.step (fun k => by rw [vinculumref26_Classes.j0]) (ev_if (fun _ => Ev.now _) fun h => absurd rfl h)
  have hi := len_cnt items
  have jf : Ev (fun k => vinculumref26_Classes.j0 k d items false) (clsR (items.map (classV d)), (0 : Int)) := by
    refine Ev.step (fun k => by rw [vinculumref26_Classes.j0]) ?_
    refine ev_if (fun h => by cases h) fun _ => ?_
    have := rCls_l d hd items (by omega) items.length 0 [] (by simp) (by simp) rfl
    simpa using this
  unfold vinculumref26_Classes.f clsB
  refine ev_bind (rValid08_ev d hd ho) ?_
  refine ev_if (fun hv => ?_) fun hv => ?_
  · rw [hv, Bool.true_and]
    refine ev_bind (rItems_ev items h hc) ?_
    cases hb : validB (rowN items) with
    | true => rw [if_pos rfl]; exact jf
    | false => rw [if_neg (by simp)]; exact jt
  · rw [Bool.not_eq_true] at hv
    rw [hv, Bool.false_and, if_neg (by simp)]; exact jt
end Go.Proofs.YtagkhoeidjlahaaDoor.G.Pure
namespace Go.Proofs.YtagkhoeidjlahaaDoor.G
open Go.RowKit Go.Proofs.YtagkhoeidjlahaaDoorW.PrintWords Go.Proofs.YtagkhoeidjlahaaDoorW.PrintLast Go.Proofs.YtagkhoeidjlahaaDoorW.PrintMore
attribute [local go_sem] max2_int min2_int max_two min_two max_three min_three max_four min_four
set_option linter.unusedVariables false
set_option linter.unusedSimpArgs false
def vinculumref26_Few.f (k : Nat) (l0 : List (S36)) (a1 : Int) : Option (Bool) := (vinculumref09_ToRow.f l0).bind fun bt209 => ((vinculumref09_Few.f k bt209.1 bt209.2.1 bt209.2.2.1 bt209.2.2.2 a1).bind fun t215 => (some t215))
set_option maxHeartbeats 8000000 in
set_option maxRecDepth 100000 in
theorem vinculumref26_Few.calls (k : Nat) (A0 : Option Addr) (c0 : Nat) (l0 : List (S36)) (a1 : Int) (r : Bool) (w : World) (hr0 : Kd.C k36 w A0 l0.length l0) (hc0 : l0.length ≤ c0) (h : vinculumref26_Few.f k l0 a1 = some r) :
    Calls Tryd.prog 18 #[.slice A0 l0.length c0, .int .i64 a1] w fun e w' => e = .returned (.bool r) ∧ Below w.heap.size w w' := by
  have HR0 := Aside0.mk hr0
  have HC0 := Aside0.mk hc0
  clear hr0 hc0
  have HB := Aside0.mk (Below.refl w.heap.size w)
  have H : ((vinculumref09_ToRow.f l0).bind fun bt209 => ((vinculumref09_Few.f k bt209.1 bt209.2.1 bt209.2.2.1 bt209.2.2.2 a1).bind fun t215 => (some t215))) = some r := h
  clear h
  replace H := Option.bind_eq_some_iff.mp H
  obtain ⟨⟨t209, t210, t211, t212⟩, A30, H⟩ := H
  replace H : ((vinculumref09_Few.f k t209 t210 t211 t212 a1).bind fun t215 => (some t215)) = some r := H
  have A3 := Aside0.mk A30
  clear A30
  replace H := Option.bind_eq_some_iff.mp H
  obtain ⟨t215, A40, H⟩ := H
  replace H : (some t215) = some r := H
  have A4 := Aside0.mk A40
  clear A40
  obtain rfl := Option.some.inj H
  go_enter Tryd.func18, Tryd.ntmps18
  go_wp2_with (first | ((with_reducible refine gate_callee (f := 62) rfl ?_); refine goesL_ (some 6) rfl rfl Tryd.func62 (by kernel_rfl) rfl #[.slice A0 l0.length c0] rfl (by (try simp only [List.map_toArray, List.map_cons, List.map_nil]); first | done | rfl | (simp only [List.length_drop, List.length_take]; rfl)) ?_; (with_reducible refine (vinculumref09_ToRow.calls (fun k_ => k_ < w.heap.size) _ _ l0 t209 t210 t211 t212 _ ?side1 A3.out).mono ?_); (case side1 => exact Kd.V_mk HC0.out (Kd.F_below (Kd.C_F k36_heap HR0.out) (by repeat (first | (with_reducible first | exact HB.out | apply below_alloc | apply pw_below_drewN | apply below_drew1) | exact HB.out)))); rintro e w5 ⟨v213, rfl, ho0, hb⟩; refine ⟨_, rfl, ?_⟩; have n0_ := Aside0.mk (Kd.V_lower (Kd.V_mono (ok' := fun k_ => True) ho0 (fun k_ hk_ => trivial)) (below_size (by repeat (first | (with_reducible first | exact HB.out | apply below_alloc | apply pw_below_drewN | apply below_drew1) | exact HB.out)))); have n1_ := Aside0.mk (below_step (by repeat (first | (with_reducible first | exact HB.out | apply below_alloc | apply pw_below_drewN | apply below_drew1) | exact HB.out)) hb); clear HB; have HO214 := n0_; have HB := n1_; clear n0_ n1_; (try clear hb); (try clear hb2); (try clear hk); (try clear hi); (try clear ho0); obtain ⟨Ao6, co6, eo6⟩ := Kd.V_slice HO214.out; subst eo6) | ((with_reducible refine gate_callee (f := 61) rfl ?_); refine goesL_ (some 8) rfl rfl Tryd.func61 (by kernel_rfl) rfl #[.agg #[.int .i64 t209, .string t210, .int .i64 t211, .slice Ao6 t212.length co6], .int .i64 a1] rfl (by (try simp only [List.map_toArray, List.map_cons, List.map_nil]); first | done | rfl | (simp only [List.length_drop, List.length_take]; rfl)) ?_; (with_reducible refine (vinculumref09_Few.calls k t209 t210 t211 _ _ t212 a1 t215 _ ?side1 ?side2 A4.out).mono ?_); (case side1 => repeat (first | exact (Kd.V_reads' HO214.out).2.2 | (with_reducible refine Kd.C_alloc ?_ _) | (with_reducible refine Kd.C_drewN ?_ _) | (with_reducible refine Kd.C_drew ?_))); (case side2 => exact (Kd.V_reads' HO214.out).2.1); rintro e w7 ⟨rfl, hb⟩; refine ⟨_, rfl, ?_⟩; have n0_ := Aside0.mk (Kd.V_below (by (with_reducible repeat (first | apply Kd.V_alloc | apply Kd.V_drewN | apply Kd.V_drew)); exact HO214.out) hb); have n1_ := Aside0.mk (below_step (by repeat (first | (with_reducible first | exact HB.out | apply below_alloc | apply pw_below_drewN | apply below_drew1) | exact HB.out)) hb); clear HO214; clear HB; have HO214 := n0_; have HB := n1_; clear n0_ n1_; (try clear hb); (try clear hb2); (try clear hk); (try clear hi)))
  go_ret
  exact ⟨by first | rfl | (simp [errW_none, errW_some] <;> rfl) | (simp [*, errW_none, errW_some] <;> rfl), by repeat (first | (with_reducible first | exact HB.out | apply below_alloc | apply pw_below_drewN | apply below_drew1) | exact HB.out)⟩
end Go.Proofs.YtagkhoeidjlahaaDoor.G
namespace Go.Proofs.YtagkhoeidjlahaaDoor.G
open Go.RowKit Go.Proofs.YtagkhoeidjlahaaDoorW.PrintWords Go.Proofs.YtagkhoeidjlahaaDoorW.PrintLast Go.Proofs.YtagkhoeidjlahaaDoorW.PrintMore
attribute [local go_sem] max2_int min2_int max_two min_two max_three min_three max_four min_four
set_option linter.unusedVariables false
set_option linter.unusedSimpArgs false
def breakpoint_permitted.f (a0 : Int) (a1 : Int) : Option (Bool) := if a1 = 3 then (some (a0 != 3)) else (if a1 = 2 then (some (a0 != 3)) else (some false))
set_option maxHeartbeats 8000000 in
set_option maxRecDepth 100000 in
theorem breakpoint_permitted.calls (a0 : Int) (a1 : Int) (r : Bool) (w : World) (h : breakpoint_permitted.f a0 a1 = some r) :
    Calls Tryd.prog 64 #[.int .i64 a0, .int .i64 a1] w fun e w' => e = .returned (.bool r) ∧ Drawn0 w w' := by
  have H : (if a1 = 3 then (some (a0 != 3)) else (if a1 = 2 then (some (a0 != 3)) else (some false))) = some r := h
  clear h
  by_cases c3 : a1 = 3
  · rw [if_pos c3] at H
    have c3b0 : (a1 == 3) = true := beq_iff_eq.mpr c3
    have c3b1 : (a1 != 3) = false := bne_eq_false_iff_eq.mpr c3
    clear c3
    obtain rfl := Option.some.inj H
    go_enter Tryd.func64, Tryd.ntmps64
    go_wp2
    go_ret
    exact ⟨by first | rfl | (simp; done) | (simp [*]; done), by repeat (first | exact Drawn0.refl _ | apply Drawn0.step)⟩
  · rw [if_neg c3] at H
    have c3b0 : (a1 == 3) = false := beq_eq_false_iff_ne.mpr c3
    have c3b1 : (a1 != 3) = true := bne_iff_ne.mpr c3
    by_cases c4 : a1 = 2
    · rw [if_pos c4] at H
      have c4b0 : (a1 == 2) = true := beq_iff_eq.mpr c4
      have c4b1 : (a1 != 2) = false := bne_eq_false_iff_eq.mpr c4
      clear c4
      obtain rfl := Option.some.inj H
      go_enter Tryd.func64, Tryd.ntmps64
      go_wp2
      go_ret
      exact ⟨by first | rfl | (simp; done) | (simp [*]; done), by repeat (first | exact Drawn0.refl _ | apply Drawn0.step)⟩
    · rw [if_neg c4] at H
      have c4b0 : (a1 == 2) = false := beq_eq_false_iff_ne.mpr c4
      have c4b1 : (a1 != 2) = true := bne_iff_ne.mpr c4
      obtain rfl := Option.some.inj H
      go_enter Tryd.func64, Tryd.ntmps64
      go_wp2
      go_ret
      exact ⟨by first | rfl | (simp; done) | (simp [*]; done), by repeat (first | exact Drawn0.refl _ | apply Drawn0.step)⟩
end Go.Proofs.YtagkhoeidjlahaaDoor.G
namespace Go.Proofs.YtagkhoeidjlahaaDoor.G
open Go.RowKit Go.Proofs.YtagkhoeidjlahaaDoorW.PrintWords Go.Proofs.YtagkhoeidjlahaaDoorW.PrintLast Go.Proofs.YtagkhoeidjlahaaDoorW.PrintMore
attribute [local go_sem] max2_int min2_int max_two min_two max_three min_three max_four min_four
set_option linter.unusedVariables false
set_option linter.unusedSimpArgs false
def breakpoint_Places.l0 : Nat → List Int → List Int → Int → Option (List Int × Int)
  | 0, _, _, _ => none
  | k + 1, x6, x8, x9 => if x9 < (x6.length : Int) then (if 0 ≤ (wrap64 (x9 - 1)) then (if (wrap64 (x9 - 1)) < (x6.length : Int) then (if 0 ≤ x9 then ((breakpoint_permitted.f (rd x6 (wrap64 (x9 - 1))) (rd x6 x9)).bind fun t182 => (if t182 = true then (if x8.length < 17592186044416 then (breakpoint_Places.l0 k x6 (x8 ++ [x9]) (wrap64 (x9 + 1))) else (none)) else (breakpoint_Places.l0 k x6 x8 (wrap64 (x9 + 1))))) else (none)) else (none)) else (none)) else (some (x8, 0))
def breakpoint_Places.f (k : Nat) (l0 : List (S68)) (l1 : List (S36)) : Option (List Int × Int) := (atom_Classes.f k l0 l1).bind fun bt173 => (if bt173.2 = 0 then (if (l1.length : Int) = 0 then (some (([] : List Int), 8)) else (breakpoint_Places.l0 k bt173.1 (([0] : List Int)) 1)) else (some (([] : List Int), bt173.2)))
set_option maxHeartbeats 8000000 in
set_option maxRecDepth 100000 in
theorem breakpoint_Places.calls (k : Nat) (A0 : Option Addr) (c0 : Nat) (l0 : List (S68)) (A1 : Option Addr) (c1 : Nat) (l1 : List (S36)) (r1 : List Int) (r2 : Int) (w : World) (hr0 : Kd.C k68 w A0 l0.length l0) (hc0 : l0.length ≤ c0) (hr1 : Kd.C k36 w A1 l1.length l1) (hc1 : l1.length ≤ c1) (h : breakpoint_Places.f k l0 l1 = some (r1, r2)) :
    Calls Tryd.prog 19 #[.slice A0 l0.length c0, .slice A1 l1.length c1] w fun e w' => ∃ v0_ : Value, e = .returned (.tuple #[v0_, .int .i64 r2]) ∧ Kd.R (Kd.int .i64) 3 w' w.heap.size (fun _ => True) v0_ r1 ∧ Below w.heap.size w w' := by
  have HR0 := Aside0.mk hr0
  have HC0 := Aside0.mk hc0
  clear hr0 hc0
  have HR1 := Aside0.mk hr1
  have HC1 := Aside0.mk hc1
  clear hr1 hc1
  have HB := Aside0.mk (Below.refl w.heap.size w)
  have H : ((atom_Classes.f k l0 l1).bind fun bt173 => (if bt173.2 = 0 then (if (l1.length : Int) = 0 then (some (([] : List Int), 8)) else (breakpoint_Places.l0 k bt173.1 (([0] : List Int)) 1)) else (some (([] : List Int), bt173.2)))) = some (r1, r2) := h
  clear h
  replace H := Option.bind_eq_some_iff.mp H
  obtain ⟨⟨t173, t174⟩, A30, H⟩ := H
  replace H : (if t174 = 0 then (if (l1.length : Int) = 0 then (some (([] : List Int), 8)) else (breakpoint_Places.l0 k t173 (([0] : List Int)) 1)) else (some (([] : List Int), t174))) = some (r1, r2) := H
  have A3 := Aside0.mk A30
  clear A30
  by_cases c4 : t174 = 0
  · rw [if_pos c4] at H
    have c4b0 : (t174 == 0) = true := beq_iff_eq.mpr c4
    have c4b1 : (t174 != 0) = false := bne_eq_false_iff_eq.mpr c4
    clear c4
    by_cases c5 : (l1.length : Int) = 0
    · rw [if_pos c5] at H
      have c5b0 : ((l1.length : Int) == 0) = true := beq_iff_eq.mpr c5
      have c5b1 : ((l1.length : Int) != 0) = false := bne_eq_false_iff_eq.mpr c5
      clear c5
      simp only [Option.some.injEq, Prod.mk.injEq] at H
      obtain ⟨rfl, rfl⟩ := H
      go_enter Tryd.func19, Tryd.ntmps19
      go_wp2_with (first | (go_at_call 63; (with_reducible refine (atom_Classes.calls k _ _ l0 _ _ l1 t173 t174 _ ?side1 ?side2 ?side3 ?side4 A3.out).mono ?_); (case side1 => repeat (first | exact HR0.out | (with_reducible refine Kd.C_alloc ?_ _) | (with_reducible refine Kd.C_drewN ?_ _) | (with_reducible refine Kd.C_drew ?_))); (case side2 => exact HC0.out); (case side3 => repeat (first | exact HR1.out | (with_reducible refine Kd.C_alloc ?_ _) | (with_reducible refine Kd.C_drewN ?_ _) | (with_reducible refine Kd.C_drew ?_))); (case side4 => exact HC1.out); rintro e w6 ⟨v175, rfl, ho0, hb⟩; have n0_ := Aside0.mk (Kd.R_lower ho0 (below_size (by repeat (first | (with_reducible first | exact HB.out | apply below_alloc | apply pw_below_drewN | apply below_drew1) | exact HB.out)))); have n1_ := Aside0.mk (below_step (by repeat (first | (with_reducible first | exact HB.out | apply below_alloc | apply pw_below_drewN | apply below_drew1) | exact HB.out)) hb); clear HB; have HO176 := n0_; have HB := n1_; clear n0_ n1_; (try clear hb); (try clear hb2); (try clear hk); (try clear hi); (try clear ho0)))
      repeat (go_quiet (first | (go_at_call 63; (with_reducible refine (atom_Classes.calls k _ _ l0 _ _ l1 t173 t174 _ ?side1 ?side2 ?side3 ?side4 A3.out).mono ?_); (case side1 => repeat (first | exact HR0.out | (with_reducible refine Kd.C_alloc ?_ _) | (with_reducible refine Kd.C_drewN ?_ _) | (with_reducible refine Kd.C_drew ?_))); (case side2 => exact HC0.out); (case side3 => repeat (first | exact HR1.out | (with_reducible refine Kd.C_alloc ?_ _) | (with_reducible refine Kd.C_drewN ?_ _) | (with_reducible refine Kd.C_drew ?_))); (case side4 => exact HC1.out); rintro e w6 ⟨v175, rfl, ho0, hb⟩; have n0_ := Aside0.mk (Kd.R_lower ho0 (below_size (by repeat (first | (with_reducible first | exact HB.out | apply below_alloc | apply pw_below_drewN | apply below_drew1) | exact HB.out)))); have n1_ := Aside0.mk (below_step (by repeat (first | (with_reducible first | exact HB.out | apply below_alloc | apply pw_below_drewN | apply below_drew1) | exact HB.out)) hb); clear HB; have HO176 := n0_; have HB := n1_; clear n0_ n1_; (try clear hb); (try clear hb2); (try clear hk); (try clear hi); (try clear ho0))); try go_wp2_with (first | (go_at_call 63; (with_reducible refine (atom_Classes.calls k _ _ l0 _ _ l1 t173 t174 _ ?side1 ?side2 ?side3 ?side4 A3.out).mono ?_); (case side1 => repeat (first | exact HR0.out | (with_reducible refine Kd.C_alloc ?_ _) | (with_reducible refine Kd.C_drewN ?_ _) | (with_reducible refine Kd.C_drew ?_))); (case side2 => exact HC0.out); (case side3 => repeat (first | exact HR1.out | (with_reducible refine Kd.C_alloc ?_ _) | (with_reducible refine Kd.C_drewN ?_ _) | (with_reducible refine Kd.C_drew ?_))); (case side4 => exact HC1.out); rintro e w6 ⟨v175, rfl, ho0, hb⟩; have n0_ := Aside0.mk (Kd.R_lower ho0 (below_size (by repeat (first | (with_reducible first | exact HB.out | apply below_alloc | apply pw_below_drewN | apply below_drew1) | exact HB.out)))); have n1_ := Aside0.mk (below_step (by repeat (first | (with_reducible first | exact HB.out | apply below_alloc | apply pw_below_drewN | apply below_drew1) | exact HB.out)) hb); clear HB; have HO176 := n0_; have HB := n1_; clear n0_ n1_; (try clear hb); (try clear hb2); (try clear hk); (try clear hi); (try clear ho0))))
      go_ret2
      exact ⟨_, by first | rfl | (simp [errW_none, errW_some] <;> rfl) | (simp [*, errW_none, errW_some] <;> rfl), by first | exact Kd.R_nil _ _ _ _ _ | exact Kd.N_nil _ _ _ _ _ | exact Kd.V_nil _ _ _ _ _ | exact Kd.Q_nil _ _ _ _ _ | exact Kd.S_nil _ _ _ _ _, by repeat (first | (with_reducible first | exact HB.out | apply below_alloc | apply pw_below_drewN | apply below_drew1) | exact HB.out)⟩
    · rw [if_neg c5] at H
      have c5b0 : ((l1.length : Int) == 0) = false := beq_eq_false_iff_ne.mpr c5
      have c5b1 : ((l1.length : Int) != 0) = true := bne_iff_ne.mpr c5
      have c5b2 : ¬ (l1 = []) := fun h_ => c5 (by rw [h_]; rfl)
      obtain ⟨y177, hy177⟩ : ∃ y_ : List Int, y_ = (([0] : List Int)) := ⟨_, rfl⟩
      replace H : (breakpoint_Places.l0 k t173 y177 1) = some (r1, r2) := by first | (rw [hy177]; with_reducible exact H) | (have H2_ := (Option.bind_some _ _).symm.trans H; rw [hy177]; with_reducible exact H2_) | (have H2_ := (Option.bind_some _ _).symm.trans H; with_reducible exact H2_) | with_reducible exact H | (rw [hy177]; exact H) | exact H
      have Ny177 := Aside0.mk hy177
      clear hy177
      have H' := Aside0.mk H
      clear H
      go_enter Tryd.func19, Tryd.ntmps19
      go_wp2_with (first | (go_at_call 63; (with_reducible refine (atom_Classes.calls k _ _ l0 _ _ l1 t173 t174 _ ?side1 ?side2 ?side3 ?side4 A3.out).mono ?_); (case side1 => repeat (first | exact HR0.out | (with_reducible refine Kd.C_alloc ?_ _) | (with_reducible refine Kd.C_drewN ?_ _) | (with_reducible refine Kd.C_drew ?_))); (case side2 => exact HC0.out); (case side3 => repeat (first | exact HR1.out | (with_reducible refine Kd.C_alloc ?_ _) | (with_reducible refine Kd.C_drewN ?_ _) | (with_reducible refine Kd.C_drew ?_))); (case side4 => exact HC1.out); rintro e w7 ⟨v175, rfl, ho0, hb⟩; have n0_ := Aside0.mk (Kd.R_lower ho0 (below_size (by repeat (first | (with_reducible first | exact HB.out | apply below_alloc | apply pw_below_drewN | apply below_drew1) | exact HB.out)))); have n1_ := Aside0.mk (below_step (by repeat (first | (with_reducible first | exact HB.out | apply below_alloc | apply pw_below_drewN | apply below_drew1) | exact HB.out)) hb); clear HB; have HO176 := n0_; have HB := n1_; clear n0_ n1_; (try clear hb); (try clear hb2); (try clear hk); (try clear hi); (try clear ho0)) | ((with_reducible refine gate_dst (N := 22) rfl ?_); refine Kd.R_lit (Kd.int .i64) _ 3 ?hg (N := 22) ?hd (xs := ([0] : List Int)) (inner := [.int .i64 0]) (ok := fun _ => True) (okp := fun _ => True) ?hr ?hp (fun _ hk => hk) trivial (Below.refl _ _) (Nat.le_refl _) (by simp) ?_; (case hd => rfl); (case hg => rfl); (case hr => first | (go_simp; done) | (go_simp; rfl)); (case hp => exact (Reps.one (show Kd.M (Kd.int .i64) _ _ _ 0 [.int .i64 0] from rfl) (Reps.none _ _))); intro v178 w8 ho9 hb hg_ hnew_; clear hg_ hnew_; (first | rw [← Ny177.out] at ho9 | (simp only [Int.reduceToNat] at ho9; rw [← Ny177.out] at ho9)); have n0_ := Aside0.mk (Kd.R_elder' (by (with_reducible repeat (first | apply Kd.R_alloc | apply Kd.R_drewN | apply Kd.R_drew)); exact HO176.out) (Kd.R_base ho9) hb); have n1_ := Aside0.mk (Kd.R_lower (Kd.R_new' ho9 (Kd.R_lt (by (with_reducible repeat (first | apply Kd.R_alloc | apply Kd.R_drewN | apply Kd.R_drew)); exact HO176.out))) (below_size (by repeat (first | (with_reducible first | exact HB.out | apply below_alloc | apply pw_below_drewN | apply below_drew1) | exact HB.out)))); have n2_ := Aside0.mk (below_step (by repeat (first | (with_reducible first | exact HB.out | apply below_alloc | apply pw_below_drewN | apply below_drew1) | exact HB.out)) hb); clear HO176; clear HB; have HO176 := n0_; have HO179 := n1_; have HB := n2_; clear n0_ n1_ n2_; clear hb ho9))
      repeat (go_quiet (first | (go_at_call 63; (with_reducible refine (atom_Classes.calls k _ _ l0 _ _ l1 t173 t174 _ ?side1 ?side2 ?side3 ?side4 A3.out).mono ?_); (case side1 => repeat (first | exact HR0.out | (with_reducible refine Kd.C_alloc ?_ _) | (with_reducible refine Kd.C_drewN ?_ _) | (with_reducible refine Kd.C_drew ?_))); (case side2 => exact HC0.out); (case side3 => repeat (first | exact HR1.out | (with_reducible refine Kd.C_alloc ?_ _) | (with_reducible refine Kd.C_drewN ?_ _) | (with_reducible refine Kd.C_drew ?_))); (case side4 => exact HC1.out); rintro e w7 ⟨v175, rfl, ho0, hb⟩; have n0_ := Aside0.mk (Kd.R_lower ho0 (below_size (by repeat (first | (with_reducible first | exact HB.out | apply below_alloc | apply pw_below_drewN | apply below_drew1) | exact HB.out)))); have n1_ := Aside0.mk (below_step (by repeat (first | (with_reducible first | exact HB.out | apply below_alloc | apply pw_below_drewN | apply below_drew1) | exact HB.out)) hb); clear HB; have HO176 := n0_; have HB := n1_; clear n0_ n1_; (try clear hb); (try clear hb2); (try clear hk); (try clear hi); (try clear ho0)) | ((with_reducible refine gate_dst (N := 22) rfl ?_); refine Kd.R_lit (Kd.int .i64) _ 3 ?hg (N := 22) ?hd (xs := ([0] : List Int)) (inner := [.int .i64 0]) (ok := fun _ => True) (okp := fun _ => True) ?hr ?hp (fun _ hk => hk) trivial (Below.refl _ _) (Nat.le_refl _) (by simp) ?_; (case hd => rfl); (case hg => rfl); (case hr => first | (go_simp; done) | (go_simp; rfl)); (case hp => exact (Reps.one (show Kd.M (Kd.int .i64) _ _ _ 0 [.int .i64 0] from rfl) (Reps.none _ _))); intro v178 w8 ho9 hb hg_ hnew_; clear hg_ hnew_; (first | rw [← Ny177.out] at ho9 | (simp only [Int.reduceToNat] at ho9; rw [← Ny177.out] at ho9)); have n0_ := Aside0.mk (Kd.R_elder' (by (with_reducible repeat (first | apply Kd.R_alloc | apply Kd.R_drewN | apply Kd.R_drew)); exact HO176.out) (Kd.R_base ho9) hb); have n1_ := Aside0.mk (Kd.R_lower (Kd.R_new' ho9 (Kd.R_lt (by (with_reducible repeat (first | apply Kd.R_alloc | apply Kd.R_drewN | apply Kd.R_drew)); exact HO176.out))) (below_size (by repeat (first | (with_reducible first | exact HB.out | apply below_alloc | apply pw_below_drewN | apply below_drew1) | exact HB.out)))); have n2_ := Aside0.mk (below_step (by repeat (first | (with_reducible first | exact HB.out | apply below_alloc | apply pw_below_drewN | apply below_drew1) | exact HB.out)) hb); clear HO176; clear HB; have HO176 := n0_; have HO179 := n1_; have HB := n2_; clear n0_ n1_ n2_; clear hb ho9)); try go_wp2_with (first | (go_at_call 63; (with_reducible refine (atom_Classes.calls k _ _ l0 _ _ l1 t173 t174 _ ?side1 ?side2 ?side3 ?side4 A3.out).mono ?_); (case side1 => repeat (first | exact HR0.out | (with_reducible refine Kd.C_alloc ?_ _) | (with_reducible refine Kd.C_drewN ?_ _) | (with_reducible refine Kd.C_drew ?_))); (case side2 => exact HC0.out); (case side3 => repeat (first | exact HR1.out | (with_reducible refine Kd.C_alloc ?_ _) | (with_reducible refine Kd.C_drewN ?_ _) | (with_reducible refine Kd.C_drew ?_))); (case side4 => exact HC1.out); rintro e w7 ⟨v175, rfl, ho0, hb⟩; have n0_ := Aside0.mk (Kd.R_lower ho0 (below_size (by repeat (first | (with_reducible first | exact HB.out | apply below_alloc | apply pw_below_drewN | apply below_drew1) | exact HB.out)))); have n1_ := Aside0.mk (below_step (by repeat (first | (with_reducible first | exact HB.out | apply below_alloc | apply pw_below_drewN | apply below_drew1) | exact HB.out)) hb); clear HB; have HO176 := n0_; have HB := n1_; clear n0_ n1_; (try clear hb); (try clear hb2); (try clear hk); (try clear hi); (try clear ho0)) | ((with_reducible refine gate_dst (N := 22) rfl ?_); refine Kd.R_lit (Kd.int .i64) _ 3 ?hg (N := 22) ?hd (xs := ([0] : List Int)) (inner := [.int .i64 0]) (ok := fun _ => True) (okp := fun _ => True) ?hr ?hp (fun _ hk => hk) trivial (Below.refl _ _) (Nat.le_refl _) (by simp) ?_; (case hd => rfl); (case hg => rfl); (case hr => first | (go_simp; done) | (go_simp; rfl)); (case hp => exact (Reps.one (show Kd.M (Kd.int .i64) _ _ _ 0 [.int .i64 0] from rfl) (Reps.none _ _))); intro v178 w8 ho9 hb hg_ hnew_; clear hg_ hnew_; (first | rw [← Ny177.out] at ho9 | (simp only [Int.reduceToNat] at ho9; rw [← Ny177.out] at ho9)); have n0_ := Aside0.mk (Kd.R_elder' (by (with_reducible repeat (first | apply Kd.R_alloc | apply Kd.R_drewN | apply Kd.R_drew)); exact HO176.out) (Kd.R_base ho9) hb); have n1_ := Aside0.mk (Kd.R_lower (Kd.R_new' ho9 (Kd.R_lt (by (with_reducible repeat (first | apply Kd.R_alloc | apply Kd.R_drewN | apply Kd.R_drew)); exact HO176.out))) (below_size (by repeat (first | (with_reducible first | exact HB.out | apply below_alloc | apply pw_below_drewN | apply below_drew1) | exact HB.out)))); have n2_ := Aside0.mk (below_step (by repeat (first | (with_reducible first | exact HB.out | apply below_alloc | apply pw_below_drewN | apply below_drew1) | exact HB.out)) hb); clear HO176; clear HB; have HO176 := n0_; have HO179 := n1_; have HB := n2_; clear n0_ n1_ n2_; clear hb ho9)))
      go_loopg [8, 9] k (fun kq v8 v9 w' => ∃ (x8_1 : List Int) (x9_1 : Int), v9 = .int .i64 x9_1 ∧ Aside0 (breakpoint_Places.l0 kq t173 x8_1 x9_1 = some (r1, r2)) ∧ Aside0 (kq ≤ k) ∧ Aside0 (Kd.R (Kd.int .i64) 3 w' w.heap.size (fun k_ => some k_ ≠ (v8 : Value).ownBlock) v175 t173) ∧ Aside0 (Kd.R (Kd.int .i64) 3 w' w.heap.size (fun k_ => some k_ ≠ (v175 : Value).ownBlock) v8 x8_1) ∧ Aside0 (Below w.heap.size w w'))
      case atStart => exact ⟨(y177), (1), (by first | rfl | (simp; done) | (simp [*]; done)), H', ⟨Nat.le_refl _⟩, ⟨by (with_reducible repeat (first | apply Kd.R_alloc | apply Kd.R_drewN | apply Kd.R_drew)); exact Kd.R_mono HO176.out (fun _ hk => hk.2)⟩, ⟨by (with_reducible repeat (first | apply Kd.R_alloc | apply Kd.R_drewN | apply Kd.R_drew)); exact Kd.R_mono HO179.out (fun _ hk => hk.2)⟩, ⟨by repeat (first | (with_reducible first | exact HB.out | apply below_alloc | apply pw_below_drewN | apply below_drew1) | exact HB.out)⟩⟩
      case round =>
        clear H'
        try clear c1
        try clear p2
        try clear c4
        try clear c4b0
        try clear c4b1
        try clear c5
        try clear c5b0
        try clear c5b1
        try clear c5b2
        obtain ⟨x8_1, x9_1, rfl, HA, HK1, HO_6, HO_8, HB⟩ := hrel
        cases gk with
        | zero => exact absurd HA.out (by simp [breakpoint_Places.l0])
        | succ k1 =>
          have H := HA.out
          clear HA
          simp only [breakpoint_Places.l0] at H
          by_cases c10 : x9_1 < (t173.length : Int)
          · rw [if_pos c10] at H
            have c10b0 : decide (x9_1 < (t173.length : Int)) = true := decide_eq_true c10
            clear c10
            obtain ⟨ji11, hji11⟩ : ∃ j_ : Int, (wrap64 (x9_1 - 1)) = j_ := ⟨_, rfl⟩
            replace H : (if 0 ≤ (ji11) then (if (ji11) < (t173.length : Int) then (if 0 ≤ x9_1 then ((breakpoint_permitted.f (rd t173 (ji11)) (rd t173 x9_1)).bind fun t182 => (if t182 = true then (if x8_1.length < 17592186044416 then (breakpoint_Places.l0 k1 t173 (x8_1 ++ [x9_1]) (wrap64 (x9_1 + 1))) else (none)) else (breakpoint_Places.l0 k1 t173 x8_1 (wrap64 (x9_1 + 1))))) else (none)) else (none)) else (none)) = some (r1, r2) := by first | (rw [hji11] at H; exact H) | (simp only [hji11] at H ⊢; exact H)
            have hji11w : (IntKind.i64.wrap (x9_1 - 1)) = ji11 := (i64_w _).trans hji11
            by_cases c12 : 0 ≤ (ji11)
            · rw [if_pos c12] at H
              have c12b0 : decide (0 ≤ (ji11)) = true := decide_eq_true c12
              clear c12
              by_cases c13 : (ji11) < (t173.length : Int)
              · rw [if_pos c13] at H
                have c13b0 : decide ((ji11) < (t173.length : Int)) = true := decide_eq_true c13
                clear c13
                by_cases c14 : 0 ≤ x9_1
                · rw [if_pos c14] at H
                  have c14b0 : decide (0 ≤ x9_1) = true := decide_eq_true c14
                  clear c14
                  replace H := Option.bind_eq_some_iff.mp H
                  obtain ⟨t182, A150, H⟩ := H
                  replace H : (if t182 = true then (if x8_1.length < 17592186044416 then (breakpoint_Places.l0 k1 t173 (x8_1 ++ [x9_1]) (wrap64 (x9_1 + 1))) else (none)) else (breakpoint_Places.l0 k1 t173 x8_1 (wrap64 (x9_1 + 1)))) = some (r1, r2) := H
                  have A15 := Aside0.mk A150
                  clear A150
                  by_cases c16 : t182 = true
                  · subst c16
                    have H1 : (if x8_1.length < 17592186044416 then (breakpoint_Places.l0 k1 t173 (x8_1 ++ [x9_1]) (wrap64 (x9_1 + 1))) else (none)) = some (r1, r2) := by rw [if_pos rfl] at H; exact H
                    clear H
                    have H := H1
                    clear H1
                    by_cases c17 : x8_1.length < 17592186044416
                    · rw [if_pos c17] at H
                      have LMc17 := Aside0.mk c17
                      clear c17
                      obtain ⟨y183, hy183⟩ : ∃ y_ : List Int, y_ = (x8_1 ++ [x9_1]) := ⟨_, rfl⟩
                      replace H : (breakpoint_Places.l0 k1 t173 y183 (wrap64 (x9_1 + 1))) = some (r1, r2) := by first | (rw [hy183]; with_reducible exact H) | (have H2_ := (Option.bind_some _ _).symm.trans H; rw [hy183]; with_reducible exact H2_) | (have H2_ := (Option.bind_some _ _).symm.trans H; with_reducible exact H2_) | with_reducible exact H | (rw [hy183]; exact H) | exact H
                      have Ny183 := Aside0.mk hy183
                      clear hy183
                      have H' := Aside0.mk H
                      clear H
                      obtain ⟨Ao18, co18, eo18⟩ := Kd.R_slice HO_6.out
                      subst eo18
                      have p180 : 0 ≤ ((ji11) : Int) := of_decide_eq_true (by first | (with_reducible assumption) | assumption)
                      have q180 : (ji11) < (t173.length : Int) := of_decide_eq_true (by first | (with_reducible assumption) | assumption)
                      obtain ⟨ad180, e180, hx180_0⟩ := Kd.at_int (Kd.R_reads' HO_6.out).2.2 (ji11) p180 q180
                      cases e180
                      replace p180 := eq_true p180
                      replace q180 := eq_true q180
                      have p181 : 0 ≤ (x9_1 : Int) := of_decide_eq_true (by first | (with_reducible assumption) | assumption)
                      have q181 : x9_1 < (t173.length : Int) := of_decide_eq_true (by first | (with_reducible assumption) | assumption)
                      obtain ⟨ad181, e181, hx181_0⟩ := Kd.at_int (Kd.R_reads' HO_6.out).2.2 x9_1 p181 q181
                      obtain rfl : ad180 = ad181 := (by injection e181)
                      replace p181 := eq_true p181
                      replace q181 := eq_true q181
                      go_wp2_with (first | (go_at_call 64; (with_reducible refine (breakpoint_permitted.calls (rd t173 (ji11)) (rd t173 x9_1) true _ A15.out).mono ?_); rintro e w' ⟨rfl, ⟨nd, rfl⟩⟩; (try first | exact ⟨rfl, _, World.drewN_drewN _ _ _⟩ | exact ⟨rfl, _, Eq.trans (World.drewN_drewN _ _ _) (congrArg (World.drewN _) (Nat.add_assoc _ _ _))⟩)) | ((with_reducible refine gate_builtin (b := .append) (xs := #[.tmp 39, .tmp 41]) rfl ?_); at_builtin; refine Kd.R_append (Kd.int .i64) (w0 := w) w.heap.size rfl (.tmp 39) (.tmp 41) 26 3 (.int .i64 0) 8 rfl Tryd.underlying26 info3 rfl (by decide) (by omega) u8 x8_1 x9_1 [.int .i64 x9_1] (fun k_ => some k_ ≠ (.slice (some ad180) t173.length co18 : Value).ownBlock) (fun _ => False) rfl rfl ?aP (fun _ hk => hk.elim) ?aF ?aO ?aB ?aS ?aL ?_; (case aP => exact rfl); (case aB => exact (by repeat (first | (with_reducible first | exact HB.out | apply below_alloc | apply pw_below_drewN | apply below_drew1) | exact HB.out))); (case aF => exact (fun k_ hk => Kd.fresh' (Kd.R_lt (by (with_reducible repeat (first | apply Kd.R_alloc | apply Kd.R_drewN | apply Kd.R_drew)); exact HO_6.out)) k_ hk)); (case aO => exact (by (with_reducible repeat (first | apply Kd.R_alloc | apply Kd.R_drewN | apply Kd.R_drew)); exact HO_8.out)); (case aS => exact (below_size (by repeat (first | (with_reducible first | exact HB.out | apply below_alloc | apply pw_below_drewN | apply below_drew1) | exact HB.out)))); (case aL => have := LMc17.out; omega); intro v184 w19 ho hb hg hat; rw [← Ny183.out] at ho; have n0_ := Aside0.mk (Kd.R_after (ok := (fun _ => True)) (by (with_reducible repeat (first | apply Kd.R_alloc | apply Kd.R_drewN | apply Kd.R_drew)); exact Kd.R_mono HO_6.out (fun _ hk => ⟨trivial, hk⟩)) hg hat); have n1_ := Aside0.mk (hb); have n2_ := Aside0.mk (ho); clear HO_6; clear HB; clear HO_8; have HO_6 := n0_; have HB := n1_; have HO185 := n2_; clear n0_ n1_ n2_; clear ho hb hg hat))
                      repeat (go_quiet (first | (go_at_call 64; (with_reducible refine (breakpoint_permitted.calls (rd t173 (ji11)) (rd t173 x9_1) true _ A15.out).mono ?_); rintro e w' ⟨rfl, ⟨nd, rfl⟩⟩; (try first | exact ⟨rfl, _, World.drewN_drewN _ _ _⟩ | exact ⟨rfl, _, Eq.trans (World.drewN_drewN _ _ _) (congrArg (World.drewN _) (Nat.add_assoc _ _ _))⟩)) | ((with_reducible refine gate_builtin (b := .append) (xs := #[.tmp 39, .tmp 41]) rfl ?_); at_builtin; refine Kd.R_append (Kd.int .i64) (w0 := w) w.heap.size rfl (.tmp 39) (.tmp 41) 26 3 (.int .i64 0) 8 rfl Tryd.underlying26 info3 rfl (by decide) (by omega) u8 x8_1 x9_1 [.int .i64 x9_1] (fun k_ => some k_ ≠ (.slice (some ad180) t173.length co18 : Value).ownBlock) (fun _ => False) rfl rfl ?aP (fun _ hk => hk.elim) ?aF ?aO ?aB ?aS ?aL ?_; (case aP => exact rfl); (case aB => exact (by repeat (first | (with_reducible first | exact HB.out | apply below_alloc | apply pw_below_drewN | apply below_drew1) | exact HB.out))); (case aF => exact (fun k_ hk => Kd.fresh' (Kd.R_lt (by (with_reducible repeat (first | apply Kd.R_alloc | apply Kd.R_drewN | apply Kd.R_drew)); exact HO_6.out)) k_ hk)); (case aO => exact (by (with_reducible repeat (first | apply Kd.R_alloc | apply Kd.R_drewN | apply Kd.R_drew)); exact HO_8.out)); (case aS => exact (below_size (by repeat (first | (with_reducible first | exact HB.out | apply below_alloc | apply pw_below_drewN | apply below_drew1) | exact HB.out)))); (case aL => have := LMc17.out; omega); intro v184 w19 ho hb hg hat; rw [← Ny183.out] at ho; have n0_ := Aside0.mk (Kd.R_after (ok := (fun _ => True)) (by (with_reducible repeat (first | apply Kd.R_alloc | apply Kd.R_drewN | apply Kd.R_drew)); exact Kd.R_mono HO_6.out (fun _ hk => ⟨trivial, hk⟩)) hg hat); have n1_ := Aside0.mk (hb); have n2_ := Aside0.mk (ho); clear HO_6; clear HB; clear HO_8; have HO_6 := n0_; have HB := n1_; have HO185 := n2_; clear n0_ n1_ n2_; clear ho hb hg hat)); try go_wp2_with (first | (go_at_call 64; (with_reducible refine (breakpoint_permitted.calls (rd t173 (ji11)) (rd t173 x9_1) true _ A15.out).mono ?_); rintro e w' ⟨rfl, ⟨nd, rfl⟩⟩; (try first | exact ⟨rfl, _, World.drewN_drewN _ _ _⟩ | exact ⟨rfl, _, Eq.trans (World.drewN_drewN _ _ _) (congrArg (World.drewN _) (Nat.add_assoc _ _ _))⟩)) | ((with_reducible refine gate_builtin (b := .append) (xs := #[.tmp 39, .tmp 41]) rfl ?_); at_builtin; refine Kd.R_append (Kd.int .i64) (w0 := w) w.heap.size rfl (.tmp 39) (.tmp 41) 26 3 (.int .i64 0) 8 rfl Tryd.underlying26 info3 rfl (by decide) (by omega) u8 x8_1 x9_1 [.int .i64 x9_1] (fun k_ => some k_ ≠ (.slice (some ad180) t173.length co18 : Value).ownBlock) (fun _ => False) rfl rfl ?aP (fun _ hk => hk.elim) ?aF ?aO ?aB ?aS ?aL ?_; (case aP => exact rfl); (case aB => exact (by repeat (first | (with_reducible first | exact HB.out | apply below_alloc | apply pw_below_drewN | apply below_drew1) | exact HB.out))); (case aF => exact (fun k_ hk => Kd.fresh' (Kd.R_lt (by (with_reducible repeat (first | apply Kd.R_alloc | apply Kd.R_drewN | apply Kd.R_drew)); exact HO_6.out)) k_ hk)); (case aO => exact (by (with_reducible repeat (first | apply Kd.R_alloc | apply Kd.R_drewN | apply Kd.R_drew)); exact HO_8.out)); (case aS => exact (below_size (by repeat (first | (with_reducible first | exact HB.out | apply below_alloc | apply pw_below_drewN | apply below_drew1) | exact HB.out)))); (case aL => have := LMc17.out; omega); intro v184 w19 ho hb hg hat; rw [← Ny183.out] at ho; have n0_ := Aside0.mk (Kd.R_after (ok := (fun _ => True)) (by (with_reducible repeat (first | apply Kd.R_alloc | apply Kd.R_drewN | apply Kd.R_drew)); exact Kd.R_mono HO_6.out (fun _ hk => ⟨trivial, hk⟩)) hg hat); have n1_ := Aside0.mk (hb); have n2_ := Aside0.mk (ho); clear HO_6; clear HB; clear HO_8; have HO_6 := n0_; have HB := n1_; have HO185 := n2_; clear n0_ n1_ n2_; clear ho hb hg hat)))
                      go_roundg k1
                      case measure => have := HK1.out; omega
                      case rel => exact ⟨(y183), (wrap64 (x9_1 + 1)), (by first | rfl | (simp; done) | (simp [*]; done)), H', ⟨by have := HK1.out; omega⟩, ⟨by (with_reducible repeat (first | apply Kd.R_alloc | apply Kd.R_drewN | apply Kd.R_drew)); exact Kd.R_mono HO_6.out (fun _ hk => hk.2)⟩, ⟨by (with_reducible repeat (first | apply Kd.R_alloc | apply Kd.R_drewN | apply Kd.R_drew)); exact HO185.out⟩, ⟨by repeat (first | (with_reducible first | exact HB.out | apply below_alloc | apply pw_below_drewN | apply below_drew1) | exact HB.out)⟩⟩
                    · rw [if_neg c17] at H
                      exact absurd H (by simp)
                  · replace c16 := Bool.eq_false_iff.mpr c16
                    subst c16
                    have H1 : (breakpoint_Places.l0 k1 t173 x8_1 (wrap64 (x9_1 + 1))) = some (r1, r2) := by rw [if_neg (show ¬ (false = true) by decide)] at H; exact H
                    clear H
                    have H := H1
                    clear H1
                    have H' := Aside0.mk H
                    clear H
                    obtain ⟨Ao20, co20, eo20⟩ := Kd.R_slice HO_6.out
                    subst eo20
                    have p180 : 0 ≤ ((ji11) : Int) := of_decide_eq_true (by first | (with_reducible assumption) | assumption)
                    have q180 : (ji11) < (t173.length : Int) := of_decide_eq_true (by first | (with_reducible assumption) | assumption)
                    obtain ⟨ad180, e180, hx180_0⟩ := Kd.at_int (Kd.R_reads' HO_6.out).2.2 (ji11) p180 q180
                    cases e180
                    replace p180 := eq_true p180
                    replace q180 := eq_true q180
                    have p181 : 0 ≤ (x9_1 : Int) := of_decide_eq_true (by first | (with_reducible assumption) | assumption)
                    have q181 : x9_1 < (t173.length : Int) := of_decide_eq_true (by first | (with_reducible assumption) | assumption)
                    obtain ⟨ad181, e181, hx181_0⟩ := Kd.at_int (Kd.R_reads' HO_6.out).2.2 x9_1 p181 q181
                    obtain rfl : ad180 = ad181 := (by injection e181)
                    replace p181 := eq_true p181
                    replace q181 := eq_true q181
                    go_wp2_with (first | (go_at_call 64; (with_reducible refine (breakpoint_permitted.calls (rd t173 (ji11)) (rd t173 x9_1) false _ A15.out).mono ?_); rintro e w' ⟨rfl, ⟨nd, rfl⟩⟩; (try first | exact ⟨rfl, _, World.drewN_drewN _ _ _⟩ | exact ⟨rfl, _, Eq.trans (World.drewN_drewN _ _ _) (congrArg (World.drewN _) (Nat.add_assoc _ _ _))⟩)))
                    repeat (go_quiet (first | (go_at_call 64; (with_reducible refine (breakpoint_permitted.calls (rd t173 (ji11)) (rd t173 x9_1) false _ A15.out).mono ?_); rintro e w' ⟨rfl, ⟨nd, rfl⟩⟩; (try first | exact ⟨rfl, _, World.drewN_drewN _ _ _⟩ | exact ⟨rfl, _, Eq.trans (World.drewN_drewN _ _ _) (congrArg (World.drewN _) (Nat.add_assoc _ _ _))⟩))); try go_wp2_with (first | (go_at_call 64; (with_reducible refine (breakpoint_permitted.calls (rd t173 (ji11)) (rd t173 x9_1) false _ A15.out).mono ?_); rintro e w' ⟨rfl, ⟨nd, rfl⟩⟩; (try first | exact ⟨rfl, _, World.drewN_drewN _ _ _⟩ | exact ⟨rfl, _, Eq.trans (World.drewN_drewN _ _ _) (congrArg (World.drewN _) (Nat.add_assoc _ _ _))⟩))))
                    go_roundg k1
                    case measure => have := HK1.out; omega
                    case rel => exact ⟨(x8_1), (wrap64 (x9_1 + 1)), (by first | rfl | (simp; done) | (simp [*]; done)), H', ⟨by have := HK1.out; omega⟩, ⟨by (with_reducible repeat (first | apply Kd.R_alloc | apply Kd.R_drewN | apply Kd.R_drew)); exact HO_6.out⟩, ⟨by (with_reducible repeat (first | apply Kd.R_alloc | apply Kd.R_drewN | apply Kd.R_drew)); exact HO_8.out⟩, ⟨by repeat (first | (with_reducible first | exact HB.out | apply below_alloc | apply pw_below_drewN | apply below_drew1) | exact HB.out)⟩⟩
                · rw [if_neg c14] at H
                  exact absurd H (by simp)
              · rw [if_neg c13] at H
                exact absurd H (by simp)
            · rw [if_neg c12] at H
              exact absurd H (by simp)
          · rw [if_neg c10] at H
            have c10b0 : decide (x9_1 < (t173.length : Int)) = false := decide_eq_false c10
            clear c10
            simp only [Option.some.injEq, Prod.mk.injEq] at H
            obtain ⟨rfl, rfl⟩ := H
            obtain ⟨Ao21, co21, eo21⟩ := Kd.R_slice HO_6.out
            subst eo21
            go_wp2
            repeat (go_quiet (fail); try go_wp2)
            go_ret2
            exact ⟨_, by first | rfl | (simp [errW_none, errW_some] <;> rfl) | (simp [*, errW_none, errW_some] <;> rfl), by (with_reducible repeat (first | apply Kd.R_alloc | apply Kd.R_drewN | apply Kd.R_drew)); exact Kd.R_mono HO_8.out (fun _ hk => trivial), by repeat (first | (with_reducible first | exact HB.out | apply below_alloc | apply pw_below_drewN | apply below_drew1) | exact HB.out)⟩
  · rw [if_neg c4] at H
    have c4b0 : (t174 == 0) = false := beq_eq_false_iff_ne.mpr c4
    have c4b1 : (t174 != 0) = true := bne_iff_ne.mpr c4
    simp only [Option.some.injEq, Prod.mk.injEq] at H
    obtain ⟨rfl, rfl⟩ := H
    go_enter Tryd.func19, Tryd.ntmps19
    go_wp2_with (first | (go_at_call 63; (with_reducible refine (atom_Classes.calls k _ _ l0 _ _ l1 t173 t174 _ ?side1 ?side2 ?side3 ?side4 A3.out).mono ?_); (case side1 => repeat (first | exact HR0.out | (with_reducible refine Kd.C_alloc ?_ _) | (with_reducible refine Kd.C_drewN ?_ _) | (with_reducible refine Kd.C_drew ?_))); (case side2 => exact HC0.out); (case side3 => repeat (first | exact HR1.out | (with_reducible refine Kd.C_alloc ?_ _) | (with_reducible refine Kd.C_drewN ?_ _) | (with_reducible refine Kd.C_drew ?_))); (case side4 => exact HC1.out); rintro e w22 ⟨v175, rfl, ho0, hb⟩; have n0_ := Aside0.mk (Kd.R_lower ho0 (below_size (by repeat (first | (with_reducible first | exact HB.out | apply below_alloc | apply pw_below_drewN | apply below_drew1) | exact HB.out)))); have n1_ := Aside0.mk (below_step (by repeat (first | (with_reducible first | exact HB.out | apply below_alloc | apply pw_below_drewN | apply below_drew1) | exact HB.out)) hb); clear HB; have HO176 := n0_; have HB := n1_; clear n0_ n1_; (try clear hb); (try clear hb2); (try clear hk); (try clear hi); (try clear ho0)))
    repeat (go_quiet (first | (go_at_call 63; (with_reducible refine (atom_Classes.calls k _ _ l0 _ _ l1 t173 t174 _ ?side1 ?side2 ?side3 ?side4 A3.out).mono ?_); (case side1 => repeat (first | exact HR0.out | (with_reducible refine Kd.C_alloc ?_ _) | (with_reducible refine Kd.C_drewN ?_ _) | (with_reducible refine Kd.C_drew ?_))); (case side2 => exact HC0.out); (case side3 => repeat (first | exact HR1.out | (with_reducible refine Kd.C_alloc ?_ _) | (with_reducible refine Kd.C_drewN ?_ _) | (with_reducible refine Kd.C_drew ?_))); (case side4 => exact HC1.out); rintro e w22 ⟨v175, rfl, ho0, hb⟩; have n0_ := Aside0.mk (Kd.R_lower ho0 (below_size (by repeat (first | (with_reducible first | exact HB.out | apply below_alloc | apply pw_below_drewN | apply below_drew1) | exact HB.out)))); have n1_ := Aside0.mk (below_step (by repeat (first | (with_reducible first | exact HB.out | apply below_alloc | apply pw_below_drewN | apply below_drew1) | exact HB.out)) hb); clear HB; have HO176 := n0_; have HB := n1_; clear n0_ n1_; (try clear hb); (try clear hb2); (try clear hk); (try clear hi); (try clear ho0))); try go_wp2_with (first | (go_at_call 63; (with_reducible refine (atom_Classes.calls k _ _ l0 _ _ l1 t173 t174 _ ?side1 ?side2 ?side3 ?side4 A3.out).mono ?_); (case side1 => repeat (first | exact HR0.out | (with_reducible refine Kd.C_alloc ?_ _) | (with_reducible refine Kd.C_drewN ?_ _) | (with_reducible refine Kd.C_drew ?_))); (case side2 => exact HC0.out); (case side3 => repeat (first | exact HR1.out | (with_reducible refine Kd.C_alloc ?_ _) | (with_reducible refine Kd.C_drewN ?_ _) | (with_reducible refine Kd.C_drew ?_))); (case side4 => exact HC1.out); rintro e w22 ⟨v175, rfl, ho0, hb⟩; have n0_ := Aside0.mk (Kd.R_lower ho0 (below_size (by repeat (first | (with_reducible first | exact HB.out | apply below_alloc | apply pw_below_drewN | apply below_drew1) | exact HB.out)))); have n1_ := Aside0.mk (below_step (by repeat (first | (with_reducible first | exact HB.out | apply below_alloc | apply pw_below_drewN | apply below_drew1) | exact HB.out)) hb); clear HB; have HO176 := n0_; have HB := n1_; clear n0_ n1_; (try clear hb); (try clear hb2); (try clear hk); (try clear hi); (try clear ho0))))
    go_ret2
    exact ⟨_, by first | rfl | (simp [errW_none, errW_some] <;> rfl) | (simp [*, errW_none, errW_some] <;> rfl), by first | exact Kd.R_nil _ _ _ _ _ | exact Kd.N_nil _ _ _ _ _ | exact Kd.V_nil _ _ _ _ _ | exact Kd.Q_nil _ _ _ _ _ | exact Kd.S_nil _ _ _ _ _, by repeat (first | (with_reducible first | exact HB.out | apply below_alloc | apply pw_below_drewN | apply below_drew1) | exact HB.out)⟩
end Go.Proofs.YtagkhoeidjlahaaDoor.G
