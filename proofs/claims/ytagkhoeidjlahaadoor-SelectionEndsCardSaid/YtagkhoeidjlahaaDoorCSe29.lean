-- Written by pack2.py: this session's texts and the printer's, pruned.
import Derived.Test.YtagkhoeidjlahaaDoorCSe28
import Derived.Test.YtagkhoeidjlahaaDoorCSe2
import Derived.Test.YtagkhoeidjlahaaDoorCSe20
import Derived.Test.YtagkhoeidjlahaaDoorCSe23
import Derived.Test.YtagkhoeidjlahaaDoorCSe22
namespace Go.Proofs.YtagkhoeidjlahaaDoor.G.Pure
open Go.Proofs.YtagkhoeidjlahaaDoorW.PrintWords Go.RowKit
set_option linter.unusedVariables false
set_option linter.unusedSimpArgs false
def xsOf (x : S36) : List (List Int) := posKids [] 0 x.f3
def allB (x : S36) : List (List Int) × Int := if validB x = true then (xsOf x, 0) else ([], 1)
theorem xs_le (x : S36) : (xsOf x).length ≤ 2 * cnt x := by
 have := posKids_len [] 0 x.f3
 have e := cnt_eq x
 unfold xsOf; omega
theorem pAll_ev (x : S36) (hx : OkNode x) : Ev (fun k => position_All.f k x.f0 x.f1 x.f2 x.f3) (allB x) := by
 unfold position_All.f allB
 refine Ev.bind (f := fun _ v => if v = true then some (posKids [] 0 x.f3, 0) else some ([], 1)) (nValid_ev x hx) ?_
 exact ev_if (fun h => ev_now (by rw [if_pos h]; rfl)) fun h => ev_now (by rw [if_neg h])
theorem rAll2_ev (x : S36) (hx : OkNode x) (hc : cnt x ≤ 100000) : Ev (fun k => vinculumref10_All.f k x.f0 x.f1 x.f2 x.f3) (allB x) := by
 unfold vinculumref10_All.f allB
 refine ev_bind (rValid_ev x hx (by omega)) ?_
 refine ev_if (fun h => ?_) fun h => ev_now ?_
 ·
  rw [if_pos h]
  exact ev_bind (rAll_ev (cnt x) x (Nat.le_refl _) hc hx [] (by simp; omega)) (Ev.now _)
 ·
  rw [if_neg h]
def idxF (pos : List Int) : List (List Int) → Int → Int × Int
 | [], _ => (0, 2)
 | q :: qs, i => if cmpL q pos = 0 then (i, 0) else idxF pos qs (i + 1)
def idxB (x : S36) (pos : List Int) : Int × Int := if validB x = true then idxF pos (xsOf x) 0 else (0, 1)
theorem rdL_at (l : List (List Int)) (i : Nat) (h : i < l.length) : rd_L5 l i = l[i] := by simp [rd_L5, h]
def Short (xs : List (List Int)) : Prop := ∀ q ∈ xs, q.length ≤ M
mutual
theorem kids_short : ∀ (p : List Int) (i : Int) (l : List S36) (q : List Int), q ∈ posKids p i l → q.length ≤ p.length + 1 + 2 * cntL l
 | p, i, [], q, h => by rw [posKids, List.mem_singleton] at h; subst h; simp
 | p, i, x :: l, q, h => by
  rw [posKids, List.mem_cons, List.mem_append] at h
  rw [cntL]
  rcases h with h | h | h
  ·
   subst h; simp
  ·
   have := item_short p i x q h; omega
  ·
   have := kids_short p (i + 1) l q h; omega
theorem item_short : ∀ (p : List Int) (i : Int) (x : S36) (q : List Int), q ∈ posItem p i x → q.length ≤ p.length + 1 + 2 * cnt x
 | p, i, ⟨_, _, _, l⟩, q, h => by
  rw [posItem] at h
  have := slots_short p i 0 l q h
  rw [cnt]; omega
theorem slots_short : ∀ (p : List Int) (i s : Int) (l : List S36) (q : List Int), q ∈ posSlots p i s l → q.length ≤ p.length + 1 + 2 * cntL l
 | p, i, s, [], q, h => by simp [posSlots] at h
 | p, i, s, y :: l, q, h => by
  rw [posSlots, List.mem_append] at h
  rw [cntL]
  rcases h with h | h
  ·
   have := slot_short (p ++ [i, s]) y q h
   simp only [List.length_append, List.length_cons, List.length_nil] at this
   omega
  ·
   have := slots_short p i (s + 1) l q h; omega
theorem slot_short : ∀ (p : List Int) (y : S36) (q : List Int), q ∈ posSlot p y → q.length + 1 ≤ p.length + 2 * cnt y
 | p, ⟨_, _, _, l⟩, q, h => by
  rw [posSlot] at h
  have := kids_short p 0 l q h
  rw [cnt]; omega
end
theorem xs_short (x : S36) (hc : cnt x ≤ 100000) : Short (xsOf x) := fun q h => by
 have := kids_short [] 0 x.f3 q h
 have e := cnt_eq x
 unfold M
 simp at this
 omega
theorem rIdx_l (xs : List (List Int)) (pos : List Int) (hs : Short xs) (hl : xs.length ≤ 1000000) : ∀ (m i : Nat), xs.length - i = m → Ev (fun k => vinculumref10_Index.l0 k pos xs i) (idxF pos (xs.drop i) i) := by
 intro m
 induction m with
 | zero =>
  intro i hi
  refine Ev.step (fun k => by rw [vinculumref10_Index.l0]) ?_
  refine ev_if (fun h => by omega) fun _ => ev_now ?_
  rw [List.drop_eq_nil_of_le (by omega), idxF]
 | succ m ih =>
  intro i hi
  have hil : i < xs.length := by omega
  refine Ev.step (fun k => by rw [vinculumref10_Index.l0]) ?_
  refine ev_if (fun _ => ?_) fun h => by omega
  refine ev_if (fun _ => ?_) fun h => by omega
  rw [List.drop_eq_getElem_cons hil, idxF, rdL_at _ _ hil]
  refine ev_bind (rCmp_ev _ _ (hs _ (List.getElem_mem hil))) ?_
  refine ev_if (fun h => ev_now ?_) fun h => ?_
  ·
   rw [if_pos h]
  ·
   rw [if_neg h, wr (n := (i : Int) + 1) (by omega)]
   have := ih (i + 1) (by omega)
   exact_mod_cast this
theorem rIndex_ev (x : S36) (hx : OkNode x) (hc : cnt x ≤ 100000) (pos : List Int) : Ev (fun k => vinculumref10_Index.f k x.f0 x.f1 x.f2 x.f3 pos) (idxB x pos) := by
 unfold vinculumref10_Index.f idxB
 refine ev_bind (rAll2_ev x hx hc) ?_
 unfold allB
 have hle := xs_le x
 cases hv : validB x with
 | true =>
  simp only [if_true]
  have := rIdx_l (xsOf x) pos (xs_short x hc) (by omega) (xsOf x).length 0 rfl
  simpa using this
 | false => simp only [Bool.false_eq_true, if_false]; exact ev_if (fun h => by simp at h) fun _ => Ev.now _
def Low (xs : List (List Int)) (pos : List Int) (r : Nat) : Prop := r ≤ xs.length ∧ (∀ t (h : t < xs.length), t < r → cmpL xs[t] pos < 0) ∧ ∀ t (h : t < xs.length), r ≤ t → ¬ cmpL xs[t] pos < 0
theorem bsl_low (xs : List (List Int)) (pos : List Int) (hsr : Srt xs) (hs : Short xs) (hl : xs.length ≤ 1000000) : ∀ (n i j : Nat), j - i ≤ n → i ≤ j → j ≤ xs.length → (∀ t (h : t < xs.length), t < i → cmpL xs[t] pos < 0) → (∀ t (h : t < xs.length), j ≤ t → ¬ cmpL xs[t] pos < 0) →
  ∃ r, Low xs pos r ∧ ∃ K, ∀ k, K ≤ k → ∀ q, n + 1 ≤ q → bsl k xs pos q i j = some (r : Int) := by
 intro n
 induction n with
 | zero =>
  intro i j h1 h2 h3 h4 h5
  obtain rfl : i = j := by omega
  refine ⟨i, ⟨h3, h4, h5⟩, 0, fun k _ q hq => ?_⟩
  obtain ⟨q, rfl⟩ : ∃ q', q = q' + 1 := ⟨q - 1, by omega⟩
  rw [bsl, if_neg (by omega)]
 | succ n ih =>
  intro i j h1 h2 h3 h4 h5
  by_cases hij : i < j
  ·
   have hm : ((i : Int) + (j : Int)) / 2 = (((i + j) / 2 : Nat) : Int) := by omega
   have hml : (i + j) / 2 < xs.length := by omega
   obtain ⟨K0, hK0'⟩ := pCmp_ev xs[(i + j) / 2] pos (hs _ (List.getElem_mem hml))
   have hK0 : ∀ k, K0 ≤ k → position_Compare.f k xs[(i + j) / 2] pos = some (cmpL xs[(i + j) / 2] pos) := hK0'
   by_cases hc : cmpL xs[(i + j) / 2] pos < 0
   ·
    obtain ⟨r, hr, K, hK⟩ := ih ((i + j) / 2 + 1) j (by omega) (by omega) h3 (fun t ht hlt => by
     rcases Nat.lt_or_ge t ((i + j) / 2) with h | h
     ·
      exact cmpL_trans _ _ _ (srt_lt hsr h hml) hc
     ·
      obtain rfl : t = (i + j) / 2 := by omega
      exact hc) h5
    refine ⟨r, hr, max K0 K, fun k hk q hq => ?_⟩
    obtain ⟨q, rfl⟩ : ∃ q', q = q' + 1 := ⟨q - 1, by omega⟩
    rw [bsl, if_pos (by omega), hm, rdL_at _ _ hml, hK0 k (by omega)]
    simp only [Option.bind_some]
    rw [if_pos hc]
    have := hK k (by omega) q (by omega)
    exact_mod_cast this
   ·
    obtain ⟨r, hr, K, hK⟩ := ih i ((i + j) / 2) (by omega) (by omega) (by omega) h4 (fun t ht hlt hneg => by
     rcases Nat.eq_or_lt_of_le hlt with h | h
     ·
      subst h; exact hc hneg
     ·
      exact hc (cmpL_trans _ _ _ (srt_lt hsr h ht) hneg))
    refine ⟨r, hr, max K0 K, fun k hk q hq => ?_⟩
    obtain ⟨q, rfl⟩ : ∃ q', q = q' + 1 := ⟨q - 1, by omega⟩
    rw [bsl, if_pos (by omega), hm, rdL_at _ _ hml, hK0 k (by omega)]
    simp only [Option.bind_some]
    rw [if_neg hc]
    exact hK k (by omega) q (by omega)
  ·
   obtain rfl : i = j := by omega
   refine ⟨i, ⟨h3, h4, h5⟩, 0, fun k _ q hq => ?_⟩
   obtain ⟨q, rfl⟩ : ∃ q', q = q' + 1 := ⟨q - 1, by omega⟩
   rw [bsl, if_neg (by omega)]
theorem idxF_none (pos : List Int) : ∀ (l : List (List Int)) (i : Int), (∀ q ∈ l, cmpL q pos ≠ 0) → idxF pos l i = (0, 2)
 | [], i, _ => rfl
 | q :: l, i, h => by rw [idxF, if_neg (h q (by simp))]; exact idxF_none pos l (i + 1) fun x hx => h x (by simp [hx])
theorem idxF_at (pos : List Int) : ∀ (l : List (List Int)) (i : Int) (r : Nat) (h : r < l.length), (∀ t (ht : t < r), cmpL (l[t]'(by omega)) pos ≠ 0) → cmpL l[r] pos = 0 → idxF pos l i = (i + r, 0)
 | q :: l, i, 0, h, _, h2 => by rw [idxF, if_pos (show cmpL q pos = 0 from h2)]; simp
 | q :: l, i, r + 1, h, h1, h2 => by
  rw [idxF, if_neg (show ¬ cmpL q pos = 0 from h1 0 (by omega))]
  rw [idxF_at pos l (i + 1) r (by simpa using h) (fun t ht => h1 (t + 1) (by omega)) h2]
  push_cast
  simp; omega
theorem low_idx (xs : List (List Int)) (pos : List Int) (hsr : Srt xs) (r : Nat) (h : Low xs pos r) : idxF pos xs 0 = if hr : r < xs.length then (if cmpL xs[r] pos = 0 then ((r : Int), 0) else (0, 2)) else (0, 2) := by
 obtain ⟨h1, h2, h3⟩ := h
 by_cases hr : r < xs.length
 ·
  rw [dif_pos hr]
  by_cases hc : cmpL xs[r] pos = 0
  ·
   rw [if_pos hc, idxF_at pos xs 0 r hr (fun t ht => by have := h2 t (by omega) ht; omega) hc]; simp
  ·
   rw [if_neg hc]
   refine idxF_none pos xs 0 fun q hq => ?_
   obtain ⟨t, ht, rfl⟩ := List.getElem_of_mem hq
   rcases Nat.lt_trichotomy t r with h | h | h
   ·
    have := h2 t ht h; omega
   ·
    subst h; exact hc
   ·
    have a1 := h3 r hr (Nat.le_refl _)
    have a2 := cmpL_neg xs[r] pos
    have a3 := srt_lt hsr h ht
    intro he
    have := cmpL_zero he
    rw [this] at a3
    exact a1 a3
 ·
  rw [dif_neg hr]
  refine idxF_none pos xs 0 fun q hq => ?_
  obtain ⟨t, ht, rfl⟩ := List.getElem_of_mem hq
  have := h2 t ht (by omega); omega
theorem bsf_ev (xs : List (List Int)) (pos : List Int) (hsr : Srt xs) (hs : Short xs) (hl : xs.length ≤ 1000000) : ∃ (i : Int) (b : Bool), Ev (fun k => bsf k xs pos) (i, b) ∧ idxF pos xs 0 = if b = true then (i, 0) else (0, 2) := by
 obtain ⟨r, hr, K, hK⟩ := bsl_low xs pos hsr hs hl xs.length 0 xs.length (by omega) (by omega) (by omega) (fun t h h' => by omega) (fun t h h' => by omega)
 have hlow := low_idx xs pos hsr r hr
 have e1 : Ev (fun k => bsl k xs pos k 0 (xs.length : Int)) (r : Int) := ⟨max K (xs.length + 1), fun k hk => hK k (by omega) k (by omega)⟩
 unfold bsf
 by_cases hrl : r < xs.length
 ·
  rw [dif_pos hrl] at hlow
  refine ⟨r, cmpL xs[r] pos == 0, ?_, ?_⟩
  ·
   refine ev_if (fun _ => ?_) fun h => by omega
   refine Ev.bind (f := fun k i => if i < (xs.length : Int) then (position_Compare.f k (rd_L5 xs i) pos).bind fun c => some (i, c == 0) else some (i, false)) e1 ?_
   refine ev_if (fun _ => ?_) fun h => by omega
   rw [rdL_at _ _ hrl]
   exact Ev.bind (f := fun _ c => some ((r : Int), c == 0)) (pCmp_ev _ _ (hs _ (List.getElem_mem hrl))) (Ev.now _)
  ·
   rw [hlow]
   by_cases hc : cmpL xs[r] pos = 0
   ·
    rw [if_pos hc, if_pos (by simpa using hc)]
   ·
    rw [if_neg hc, if_neg (by simpa using hc)]
 ·
  rw [dif_neg hrl] at hlow
  refine ⟨r, false, ?_, by rw [hlow]; rfl⟩
  refine ev_if (fun _ => ?_) fun h => by omega
  refine Ev.bind (f := fun k i => if i < (xs.length : Int) then (position_Compare.f k (rd_L5 xs i) pos).bind fun c => some (i, c == 0) else some (i, false)) e1 ?_
  exact ev_if (fun h => by omega) fun _ => Ev.now _
theorem pIndex_ev (x : S36) (hx : OkNode x) (hc : cnt x ≤ 100000) (pos : List Int) : Ev (fun k => position_Index.f k x.f0 x.f1 x.f2 x.f3 pos) (idxB x pos) := by
 unfold position_Index.f idxB
 refine Ev.bind (f := fun k b => if b.2 = 0 then (bsf k b.1 pos).bind fun r => if r.2 = true then some (r.1, 0) else some (0, 2) else some (0, b.2)) (pAll_ev x hx) ?_
 unfold allB
 have hle := xs_le x
 cases hv : validB x with
 | true =>
  simp only [if_true]
  obtain ⟨i, b, e1, e2⟩ := bsf_ev (xsOf x) pos (kids_srt _ _ _) (xs_short x hc) (by omega)
  rw [e2]
  refine Ev.bind (f := fun _ (r : Int × Bool) => if r.2 = true then some (r.1, (0 : Int)) else some (0, 2)) e1 ?_
  exact ev_if (fun h => ev_now (by simp only at h; rw [if_pos h])) fun h => ev_now (by simp only at h; rw [if_neg h])
 | false => simp only [Bool.false_eq_true, if_false]; exact ev_if (fun h => by simp at h) fun _ => Ev.now _
theorem pValid_ev (x : S36) (hx : OkNode x) (hc : cnt x ≤ 100000) (pos : List Int) : Ev (fun k => position_Valid.f k x.f0 x.f1 x.f2 x.f3 pos) ((idxB x pos).2 == 0) := by
 unfold position_Valid.f
 exact ev_bind (pIndex_ev x hx hc pos) (Ev.now _)
theorem rPValid_ev (x : S36) (hx : OkNode x) (hc : cnt x ≤ 100000) (pos : List Int) : Ev (fun k => vinculumref10_Valid.f k x.f0 x.f1 x.f2 x.f3 pos) ((idxB x pos).2 == 0) := by
 unfold vinculumref10_Valid.f
 exact ev_bind (rIndex_ev x hx hc pos) (Ev.now _)
theorem okI_small (n : Int) (h : 0 ≤ n ∧ n < 100) : OkI .i64 n := by
 have := wrap64_wf n
 rwa [wr (by omega)] at this
theorem ok_leaf (k : Int) (s : ByteArray) (hk : 0 ≤ k ∧ k < 100) (hs : s.size ≤ 100) : OkNode ⟨k, s, 0, []⟩ := OkNode.mk _ (okI_small k hk) (by unfold OkS; simp; omega) (okI_small 0 (by omega)) (by simp) (fun y h => by simp at h)
end Go.Proofs.YtagkhoeidjlahaaDoor.G.Pure
namespace Go.Proofs.YtagkhoeidjlahaaDoor.G
open Go.RowKit Go.Proofs.YtagkhoeidjlahaaDoorW.PrintWords Go.Proofs.YtagkhoeidjlahaaDoorW.PrintLast Go.Proofs.YtagkhoeidjlahaaDoorW.PrintMore
attribute [local go_sem] max2_int min2_int max_two min_two max_three min_three max_four min_four
set_option linter.unusedVariables false
set_option linter.unusedSimpArgs false
def slices_Equal_int_int.l0 : Nat → List Int → List Int → Int → Int → Option (Bool)
 | 0, _, _, _, _ => none
 | k + 1, x0, x1, x12, x13 => if x13 < x12 then (if 0 ≤ x13 then (if x13 < (x0.length : Int) then (if x13 < (x1.length : Int) then (if (rd x0 x13) = (rd x1 x13) then (slices_Equal_int_int.l0 k x0 x1 x12 (wrap64 (x13 + 1))) else (some false)) else (none)) else (none)) else (none)) else (some true)
def slices_Equal_int_int.f (k : Nat) (l0 : List Int) (l1 : List Int) : Option (Bool) := if (l0.length : Int) = (l1.length : Int) then (slices_Equal_int_int.l0 k l0 l1 (l0.length : Int) 0) else (some false)
set_option maxHeartbeats 8000000 in
set_option maxRecDepth 100000 in
theorem slices_Equal_int_int.calls (k : Nat) (A0 : Option Addr) (c0 : Nat) (l0 : List Int) (A1 : Option Addr) (c1 : Nat) (l1 : List Int) (r : Bool) (w : World) (hr0 : Kd.C (Kd.int .i64) w A0 l0.length l0) (hc0 : l0.length ≤ c0) (hr1 : Kd.C (Kd.int .i64) w A1 l1.length l1) (hc1 : l1.length ≤ c1) (h : slices_Equal_int_int.f k l0 l1 = some r) :
  Calls Tryd.prog 78 #[.slice A0 l0.length c0, .slice A1 l1.length c1] w fun e w' => e = .returned (.bool r) ∧ Drawn0 w w' := by
 have HR0 := Aside0.mk hr0
 have HC0 := Aside0.mk hc0
 clear hr0 hc0
 have HR1 := Aside0.mk hr1
 have HC1 := Aside0.mk hc1
 clear hr1 hc1
 have H : (if (l0.length : Int) = (l1.length : Int) then (slices_Equal_int_int.l0 k l0 l1 (l0.length : Int) 0) else (some false)) = some r := h
 clear h
 by_cases c3 : (l0.length : Int) = (l1.length : Int)
 ·
  rw [if_pos c3] at H
  have c3b0 : ((l0.length : Int) == (l1.length : Int)) = true := beq_iff_eq.mpr c3
  have c3b1 : ((l0.length : Int) != (l1.length : Int)) = false := bne_eq_false_iff_eq.mpr c3
  have c3b2 : (l0.length == l1.length) = true := by first | simpa using c3 | (simp at c3 ⊢; omega)
  clear c3
  have H' := Aside0.mk H
  clear H
  go_enter Tryd.func78, Tryd.ntmps78
  go_wp2
  repeat (go_quiet (fail); try go_wp2)
  go_loopg [13] k (fun kq v13 w' => ∃ (x13_1 : Int), v13 = .int .i64 x13_1 ∧ Aside0 (slices_Equal_int_int.l0 kq l0 l1 (l0.length : Int) x13_1 = some r) ∧ Aside0 (kq ≤ k) ∧ Drawn0 w w')
  case atStart => exact ⟨(0), (by first | rfl | (simp; done) | (simp [*]; done)), H', ⟨Nat.le_refl _⟩, by repeat (first | exact Drawn0.refl _ | apply Drawn0.step)⟩
  case round =>
   clear H'
   try clear c1
   try clear p2
   try clear c3
   try clear c3b0
   try clear c3b1
   try clear c3b2
   obtain ⟨x13_1, rfl, HA, HK1, ⟨m1, rfl⟩⟩ := hrel
   cases gk with
   | zero => exact absurd HA.out (by simp [slices_Equal_int_int.l0])
   | succ k1 =>
    have H := HA.out
    clear HA
    simp only [slices_Equal_int_int.l0] at H
    by_cases c4 : x13_1 < (l0.length : Int)
    ·
     rw [if_pos c4] at H
     have c4b0 : decide (x13_1 < (l0.length : Int)) = true := decide_eq_true c4
     clear c4
     by_cases c5 : 0 ≤ x13_1
     ·
      rw [if_pos c5] at H
      have c5b0 : decide (0 ≤ x13_1) = true := decide_eq_true c5
      clear c5
      by_cases c6 : x13_1 < (l0.length : Int)
      ·
       rw [if_pos c6] at H
       have c6b0 : decide (x13_1 < (l0.length : Int)) = true := decide_eq_true c6
       clear c6
       by_cases c7 : x13_1 < (l1.length : Int)
       ·
        rw [if_pos c7] at H
        have c7b0 : decide (x13_1 < (l1.length : Int)) = true := decide_eq_true c7
        clear c7
        by_cases c8 : (rd l0 x13_1) = (rd l1 x13_1)
        ·
         rw [if_pos c8] at H
         have c8b0 : ((rd l0 x13_1) == (rd l1 x13_1)) = true := beq_iff_eq.mpr c8
         have c8b1 : ((rd l0 x13_1) != (rd l1 x13_1)) = false := bne_eq_false_iff_eq.mpr c8
         clear c8
         have H' := Aside0.mk H
         clear H
         have p647 : 0 ≤ (x13_1 : Int) := of_decide_eq_true (by first | (with_reducible assumption) | assumption)
         have q647 : x13_1 < (l0.length : Int) := of_decide_eq_true (by first | (with_reducible assumption) | assumption)
         obtain ⟨ad647, e647, hx647_0⟩ := Kd.at_int HR0.out x13_1 p647 q647
         cases e647
         replace p647 := eq_true p647
         replace q647 := eq_true q647
         have p648 : 0 ≤ (x13_1 : Int) := of_decide_eq_true (by first | (with_reducible assumption) | assumption)
         have q648 : x13_1 < (l1.length : Int) := of_decide_eq_true (by first | (with_reducible assumption) | assumption)
         obtain ⟨ad648, e648, hx648_0⟩ := Kd.at_int HR1.out x13_1 p648 q648
         cases e648
         replace p648 := eq_true p648
         replace q648 := eq_true q648
         go_wp2
         repeat (go_quiet (fail); try go_wp2)
         go_roundg k1
         case measure => have := HK1.out; omega
         case rel => exact ⟨(wrap64 (x13_1 + 1)), (by first | rfl | (simp; done) | (simp [*]; done)), H', ⟨by have := HK1.out; omega⟩, by repeat (first | exact Drawn0.refl _ | apply Drawn0.step)⟩
        ·
         rw [if_neg c8] at H
         have c8b0 : ((rd l0 x13_1) == (rd l1 x13_1)) = false := beq_eq_false_iff_ne.mpr c8
         have c8b1 : ((rd l0 x13_1) != (rd l1 x13_1)) = true := bne_iff_ne.mpr c8
         obtain rfl := Option.some.inj H
         have p647 : 0 ≤ (x13_1 : Int) := of_decide_eq_true (by first | (with_reducible assumption) | assumption)
         have q647 : x13_1 < (l0.length : Int) := of_decide_eq_true (by first | (with_reducible assumption) | assumption)
         obtain ⟨ad647, e647, hx647_0⟩ := Kd.at_int HR0.out x13_1 p647 q647
         cases e647
         replace p647 := eq_true p647
         replace q647 := eq_true q647
         have p648 : 0 ≤ (x13_1 : Int) := of_decide_eq_true (by first | (with_reducible assumption) | assumption)
         have q648 : x13_1 < (l1.length : Int) := of_decide_eq_true (by first | (with_reducible assumption) | assumption)
         obtain ⟨ad648, e648, hx648_0⟩ := Kd.at_int HR1.out x13_1 p648 q648
         cases e648
         replace p648 := eq_true p648
         replace q648 := eq_true q648
         go_wp2
         repeat (go_quiet (fail); try go_wp2)
         go_ret
         exact ⟨by first | rfl | (simp; done) | (simp [*]; done), by repeat (first | exact Drawn0.refl _ | apply Drawn0.step)⟩
       ·
        rw [if_neg c7] at H
        exact absurd H (by simp)
      ·
       rw [if_neg c6] at H
       exact absurd H (by simp)
     ·
      rw [if_neg c5] at H
      exact absurd H (by simp)
    ·
     rw [if_neg c4] at H
     have c4b0 : decide (x13_1 < (l0.length : Int)) = false := decide_eq_false c4
     clear c4
     obtain rfl := Option.some.inj H
     go_wp2
     repeat (go_quiet (fail); try go_wp2)
     go_ret
     exact ⟨by first | rfl | (simp; done) | (simp [*]; done), by repeat (first | exact Drawn0.refl _ | apply Drawn0.step)⟩
 ·
  rw [if_neg c3] at H
  have c3b0 : ((l0.length : Int) == (l1.length : Int)) = false := beq_eq_false_iff_ne.mpr c3
  have c3b1 : ((l0.length : Int) != (l1.length : Int)) = true := bne_iff_ne.mpr c3
  have c3b2 : (l0.length == l1.length) = false := by first | simpa using c3 | (simp at c3 ⊢; omega)
  obtain rfl := Option.some.inj H
  go_enter Tryd.func78, Tryd.ntmps78
  go_wp2
  repeat (go_quiet (fail); try go_wp2)
  go_ret
  exact ⟨by first | rfl | (simp; done) | (simp [*]; done), by repeat (first | exact Drawn0.refl _ | apply Drawn0.step)⟩
def selection_join.f (a0_0 : Int) (a0_1 : Int) (a1_0 : Int) (a1_1 : Int) : Option (Int × Int) := some (mn a0_0 a1_0, mx a0_1 a1_1)
set_option maxHeartbeats 8000000 in
set_option maxRecDepth 100000 in
theorem selection_join.calls (a0_0 : Int) (a0_1 : Int) (a1_0 : Int) (a1_1 : Int) (r1 : Int) (r2 : Int) (w : World) (h : selection_join.f a0_0 a0_1 a1_0 a1_1 = some (r1, r2)) :
  Calls Tryd.prog 79 #[.agg #[.int .i64 a0_0, .int .i64 a0_1], .agg #[.int .i64 a1_0, .int .i64 a1_1]] w fun e w' => e = .returned (.agg #[.int .i64 r1, .int .i64 r2]) ∧ Below w.heap.size w w' := by
 have hu85 := Tryd.underlying85
 have HB := Aside0.mk (Below.refl w.heap.size w)
 have H : (some (mn a0_0 a1_0, mx a0_1 a1_1)) = some (r1, r2) := h
 clear h
 obtain ⟨ji3, hji3⟩ : ∃ j_ : Int, (mn a0_0 a1_0) = j_ := ⟨_, rfl⟩
 replace H : (some (ji3, mx a0_1 a1_1)) = some (r1, r2) := by first | (rw [hji3] at H; exact H) | (simp only [hji3] at H ⊢; exact H)
 have hji3_ : (if a1_0 < a0_0 then a1_0 else a0_0) = ji3 := hji3
 obtain ⟨ji4, hji4⟩ : ∃ j_ : Int, (mx a0_1 a1_1) = j_ := ⟨_, rfl⟩
 replace H : (some (ji3, ji4)) = some (r1, r2) := by first | (rw [hji4] at H; exact H) | (simp only [hji4] at H ⊢; exact H)
 have hji4_ : (if a0_1 < a1_1 then a1_1 else a0_1) = ji4 := hji4
 simp only [Option.some.injEq, Prod.mk.injEq] at H
 obtain ⟨rfl, rfl⟩ := H
 go_enter Tryd.func79, Tryd.ntmps79
 go_wp2_with (first | ((with_reducible refine gate_dst (N := 2) rfl ?_); refine box_event ?hg (N := 2) ?hd (cs := #[.int .i64 a0_0, .int .i64 a0_1]) (t := 85) ?hr ?_; (case hd => rfl); (case hg => rfl); (case hr => first | (go_simp; done) | (go_simp; rfl)); intro gb649 hg w5 hbox hb; have n0_ := Aside0.mk (below_step (by repeat (first | (with_reducible first | exact HB.out | apply below_alloc | apply pw_below_drewN | apply below_drew1) | exact HB.out)) hb); have n1_ := Aside0.mk (hbox); have n2_ := Aside0.mk ((by rw [hg]; exact (below_size (by repeat (first | (with_reducible first | exact HB.out | apply below_alloc | apply pw_below_drewN | apply below_drew1) | exact HB.out))) : w.heap.size ≤ gb649)); have n3_ := Aside0.mk ((by rw [hg]; exact (below_size (by repeat (first | (with_reducible first | exact HB.out | apply below_alloc | apply pw_below_drewN | apply below_drew1) | exact HB.out))) : w.heap.size ≤ gb649)); clear HB; have HB := n0_; have BK649 := n1_; have GW649 := n2_; have GE649 := n3_; clear n0_ n1_ n2_ n3_; clear hb hbox hg) | ((with_reducible refine gate_dst (N := 3) rfl ?_); refine box_event ?hg (N := 3) ?hd (cs := #[.int .i64 a1_0, .int .i64 a1_1]) (t := 85) ?hr ?_; (case hd => rfl); (case hg => rfl); (case hr => first | (go_simp; done) | (go_simp; rfl)); intro gb650 hg w6 hbox hb; have n0_ := Aside0.mk (blk_below (g := gb649) (o := .cells #[.int .i64 a0_0, .int .i64 a0_1] 85 (0, 0)) (by (with_reducible repeat (first | refine blk_drewN ?_ _ | refine blk_drew ?_ | refine blk_alloc ?_ _)); exact BK649.out) hb); have n1_ := Aside0.mk (below_step (by repeat (first | (with_reducible first | exact HB.out | apply below_alloc | apply pw_below_drewN | apply below_drew1 | refine below_set ?_ GE649.out) | exact HB.out)) hb); have n2_ := Aside0.mk (hbox); have n3_ := Aside0.mk ((by rw [hg]; exact (below_size (by repeat (first | (with_reducible first | exact HB.out | apply below_alloc | apply pw_below_drewN | apply below_drew1 | refine below_set ?_ GE649.out) | exact HB.out))) : w.heap.size ≤ gb650)); have n4_ := Aside0.mk ((by rw [hg]; exact (below_size (by repeat (first | (with_reducible first | exact HB.out | apply below_alloc | apply pw_below_drewN | apply below_drew1 | refine below_set ?_ GE649.out) | exact HB.out))) : w.heap.size ≤ gb650)); have n5_ := Aside0.mk ((by rw [hg]; exact Nat.ne_of_lt (blk_lt (g := gb649) (o := .cells #[.int .i64 a0_0, .int .i64 a0_1] 85 (0, 0)) (by (with_reducible repeat (first | refine blk_drewN ?_ _ | refine blk_drew ?_ | refine blk_alloc ?_ _)); exact BK649.out)) : gb649 ≠ gb650)); have n6_ := Aside0.mk ((by rw [hg]; exact Nat.ne_of_gt (blk_lt (g := gb649) (o := .cells #[.int .i64 a0_0, .int .i64 a0_1] 85 (0, 0)) (by (with_reducible repeat (first | refine blk_drewN ?_ _ | refine blk_drew ?_ | refine blk_alloc ?_ _)); exact BK649.out)) : gb650 ≠ gb649)); clear BK649; clear HB; have BK649 := n0_; have HB := n1_; have BK650 := n2_; have GW650 := n3_; have GE650 := n4_; have NB649_650 := n5_; have NB650_649 := n6_; clear n0_ n1_ n2_ n3_ n4_ n5_ n6_; clear hb hbox hg) | ((with_reducible refine gate_dst (N := 4) rfl ?_); refine box_event ?hg (N := 4) ?hd (cs := #[.int .i64 0, .int .i64 0]) (t := 85) ?hr ?_; (case hd => rfl); (case hg => rfl); (case hr => first | (go_simp; done) | (go_simp; rfl)); intro gb651 hg w7 hbox hb; have n0_ := Aside0.mk (blk_below (g := gb649) (o := .cells #[.int .i64 a0_0, .int .i64 a0_1] 85 (0, 0)) (by (with_reducible repeat (first | refine blk_drewN ?_ _ | refine blk_drew ?_ | refine blk_alloc ?_ _)); exact BK649.out) hb); have n1_ := Aside0.mk (blk_below (g := gb650) (o := .cells #[.int .i64 a1_0, .int .i64 a1_1] 85 (0, 0)) (by (with_reducible repeat (first | refine blk_drewN ?_ _ | refine blk_drew ?_ | refine blk_alloc ?_ _)); exact BK650.out) hb); have n2_ := Aside0.mk (below_step (by repeat (first | (with_reducible first | exact HB.out | apply below_alloc | apply pw_below_drewN | apply below_drew1 | refine below_set ?_ GE649.out | refine below_set ?_ GE650.out) | exact HB.out)) hb); have n3_ := Aside0.mk (hbox); have n4_ := Aside0.mk ((by rw [hg]; exact (below_size (by repeat (first | (with_reducible first | exact HB.out | apply below_alloc | apply pw_below_drewN | apply below_drew1 | refine below_set ?_ GE649.out | refine below_set ?_ GE650.out) | exact HB.out))) : w.heap.size ≤ gb651)); have n5_ := Aside0.mk ((by rw [hg]; exact (below_size (by repeat (first | (with_reducible first | exact HB.out | apply below_alloc | apply pw_below_drewN | apply below_drew1 | refine below_set ?_ GE649.out | refine below_set ?_ GE650.out) | exact HB.out))) : w.heap.size ≤ gb651)); have n6_ := Aside0.mk ((by rw [hg]; exact Nat.ne_of_lt (blk_lt (g := gb649) (o := .cells #[.int .i64 a0_0, .int .i64 a0_1] 85 (0, 0)) (by (with_reducible repeat (first | refine blk_drewN ?_ _ | refine blk_drew ?_ | refine blk_alloc ?_ _)); exact BK649.out)) : gb649 ≠ gb651)); have n7_ := Aside0.mk ((by rw [hg]; exact Nat.ne_of_gt (blk_lt (g := gb649) (o := .cells #[.int .i64 a0_0, .int .i64 a0_1] 85 (0, 0)) (by (with_reducible repeat (first | refine blk_drewN ?_ _ | refine blk_drew ?_ | refine blk_alloc ?_ _)); exact BK649.out)) : gb651 ≠ gb649)); have n8_ := Aside0.mk ((by rw [hg]; exact Nat.ne_of_lt (blk_lt (g := gb650) (o := .cells #[.int .i64 a1_0, .int .i64 a1_1] 85 (0, 0)) (by (with_reducible repeat (first | refine blk_drewN ?_ _ | refine blk_drew ?_ | refine blk_alloc ?_ _)); exact BK650.out)) : gb650 ≠ gb651)); have n9_ := Aside0.mk ((by rw [hg]; exact Nat.ne_of_gt (blk_lt (g := gb650) (o := .cells #[.int .i64 a1_0, .int .i64 a1_1] 85 (0, 0)) (by (with_reducible repeat (first | refine blk_drewN ?_ _ | refine blk_drew ?_ | refine blk_alloc ?_ _)); exact BK650.out)) : gb651 ≠ gb650)); clear BK649; clear BK650; clear HB; have BK649 := n0_; have BK650 := n1_; have HB := n2_; have BK651 := n3_; have GW651 := n4_; have GE651 := n5_; have NB649_651 := n6_; have NB651_649 := n7_; have NB650_651 := n8_; have NB651_650 := n9_; clear n0_ n1_ n2_ n3_ n4_ n5_ n6_ n7_ n8_ n9_; clear hb hbox hg; have hnb8 := NB649_650.out; have hnc8 := NB650_649.out; have hnb9 := NB649_651.out; have hnc9 := NB651_649.out; have hcz10_0 : w7.cell? ⟨gb649, 0, none⟩ = some (.int .i64 a0_0) := (blk_cell BK649.out 0).trans rfl; have hcz10_1 : w7.cell? ⟨gb649, 1, none⟩ = some (.int .i64 a0_1) := (blk_cell BK649.out 1).trans rfl; have hfz10_0 := blk_frozen BK649.out 0; have hfz10_1 := blk_frozen BK649.out 1; have hnb11 := NB650_651.out; have hnc11 := NB651_650.out; have hcz12_0 : w7.cell? ⟨gb650, 0, none⟩ = some (.int .i64 a1_0) := (blk_cell BK650.out 0).trans rfl; have hcz12_1 : w7.cell? ⟨gb650, 1, none⟩ = some (.int .i64 a1_1) := (blk_cell BK650.out 1).trans rfl; have hfz12_0 := blk_frozen BK650.out 0; have hfz12_1 := blk_frozen BK650.out 1; have hcz13_0 : w7.cell? ⟨gb651, 0, none⟩ = some (.int .i64 0) := (blk_cell BK651.out 0).trans rfl; have hcz13_1 : w7.cell? ⟨gb651, 1, none⟩ = some (.int .i64 0) := (blk_cell BK651.out 1).trans rfl; have hfz13_0 := blk_frozen BK651.out 0; have hfz13_1 := blk_frozen BK651.out 1))
 refine bodyPost_ret (results_cell_row rfl _ _ gb651 85 #[.int .i64 ji3, .int .i64 ji4] (0, 0) _ rfl (by (with_reducible repeat (first | refine blk_drewN ?_ _ | refine blk_drew ?_ | refine blk_alloc ?_ _)); refine blk_put (cs := #[.int .i64 ji3, .int .i64 0]) ?_ 1 _ rfl; (with_reducible repeat (first | refine blk_drewN ?_ _ | refine blk_drew ?_ | refine blk_alloc ?_ _)); refine blk_put (cs := #[.int .i64 0, .int .i64 0]) ?_ 0 _ rfl; (with_reducible repeat (first | refine blk_drewN ?_ _ | refine blk_drew ?_ | refine blk_alloc ?_ _)); exact BK651.out) Tryd.underlying85 rfl (by kernel_rfl)) rfl ?_
 exact ⟨by first | rfl | (simp [errW_none, errW_some] <;> rfl) | (simp only [← hji3, ← hji4]; first | rfl | (simp [errW_none, errW_some] <;> rfl)) | (simp [*, errW_none, errW_some] <;> rfl), by repeat (first | (with_reducible first | exact HB.out | apply below_alloc | apply pw_below_drewN | apply below_drew1 | refine below_set ?_ GE649.out | refine below_set ?_ GE650.out | refine below_set ?_ GE651.out) | exact HB.out)⟩
end Go.Proofs.YtagkhoeidjlahaaDoor.G
