-- Written by pack2.py, a program of this session: this session's texts and those that the kit's printer wrote for this claim, pruned to what the claims use.
import Derived.Test.YthdppkmmfjaiaaaDoorCAt10
import Derived.Test.YthdppkmmfjaiaaaDoorCAt11
import Derived.Test.YthdppkmmfjaiaaaDoorCAt2
namespace Go.Proofs.YthdppkmmfjaiaaaDoor.G.Pure
open Go.Proofs.YthdppkmmfjaiaaaDoorW.PrintWords Go.RowKit
set_option linter.unusedVariables false
set_option linter.unusedSimpArgs false
def opB (c : Int) : Bool := c == 2 || c == 1 || c == 3 || c == 4 || c == 6
def clB (c : Int) : Bool := c == 3 || c == 5 || c == 6
def lastI (out : List Int) : Int := rd out ((out.length : Int) - 1)
def stepF (out : List Int) (c : Int) : List Int := if clB c = true ∧ 0 < out.length ∧ lastI out = 2 then out.set (out.length - 1) 0 ++ [c] else out ++ [c]
def stepP (out : List Int) (c : Int) : List Int := if c = 2 then (if out.length = 0 ∨ opB (lastI out) = true then out ++ [0] else out ++ [c]) else stepF out c
def finP (out : List Int) : List Int := if 0 < out.length ∧ lastI out = 2 then out.set (out.length - 1) 0 else out
def clsR (vs : List Int) : List Int := finP (vs.foldl stepP [])
theorem rdI_at (l : List Int) (i : Nat) (h : i < l.length) : rd l i = l[i] := by simp [rd, h]
theorem stepF_len (out : List Int) (c : Int) : (stepF out c).length = out.length + 1 := by
  unfold stepF
  split <;> simp
theorem stepP_len (out : List Int) (c : Int) : (stepP out c).length = out.length + 1 := by
  unfold stepP
  split
  · split <;> simp
  · exact stepF_len _ _
theorem fold_len (vs : List Int) : ∀ out : List Int, (vs.foldl stepP out).length = out.length + vs.length := by
  induction vs with
  | nil => intro out; rfl
  | cons v vs ih => intro out; rw [List.foldl_cons, ih, stepP_len, List.length_cons]; omega
theorem fin_len (out : List Int) : (finP out).length = out.length := by
  unfold finP
  split <;> simp
theorem clsR_len (vs : List Int) : (clsR vs).length = vs.length := by
  unfold clsR
  rw [fin_len, fold_len]; simp
theorem in_l (c : Int) (l : List Int) (hl : l.length ≤ 100) : ∀ (m i : Nat), l.length - i = m → Ev (fun k => atom_in.l0 k c l l.length i) ((l.drop i).any fun x => x == c) := by
  intro m
  induction m with
  | zero =>
    intro i hi
    refine Ev.step (fun k => by rw [atom_in.l0]) ?_
    refine ev_if (fun h => by omega) fun _ => ev_now ?_
    rw [List.drop_eq_nil_of_le (by omega)]; rfl
  | succ m ih =>
    intro i hi
    refine Ev.step (fun k => by rw [atom_in.l0]) ?_
    refine ev_if (fun _ => ?_) fun h => by omega
    refine ev_if (fun _ => ?_) fun h => by omega
    refine ev_if (fun _ => ?_) fun h => by omega
    rw [List.drop_eq_getElem_cons (by omega), List.any_cons, rdI_at _ i (by omega)]
    refine ev_if (fun h => ev_now ?_) fun h => ?_
    · rw [beq_iff_eq.2 h]; rfl
    · rw [beq_eq_false_iff_ne.2 h, Bool.false_or, wr (n := (i : Int) + 1) (by omega)]
      exact_mod_cast ih (i + 1) (by omega)
theorem in_ev (c : Int) (l : List Int) (hl : l.length ≤ 100) : Ev (fun k => atom_in.f k c l) (l.any fun x => x == c) := by
  have := in_l c l hl l.length 0 rfl
  exact_mod_cast this
theorem beqc (a b : Int) : (a == b) = (b == a) := by
  by_cases h : a = b
  · rw [h]
  · rw [beq_eq_false_iff_ne.2 h, beq_eq_false_iff_ne.2 (fun e => h e.symm)]
theorem inO_ev (c : Int) : Ev (fun k => atom_in.f k c [2, 1, 3, 4, 6]) (opB c) := by
  have := in_ev c [2, 1, 3, 4, 6] (by decide)
  rw [show ([2, 1, 3, 4, 6] : List Int).any (fun x => x == c) = opB c by unfold opB; simp only [List.any_cons, List.any_nil, Bool.or_false, beqc _ c, Bool.or_assoc]] at this
  exact this
theorem inC_ev (c : Int) : Ev (fun k => atom_in.f k c [3, 5, 6]) (clB c) := by
  have := in_ev c [3, 5, 6] (by decide)
  rw [show ([3, 5, 6] : List Int).any (fun x => x == c) = clB c by unfold clB; simp only [List.any_cons, List.any_nil, Bool.or_false, beqc _ c, Bool.or_assoc]] at this
  exact this
theorem pCls_l (d : List S59) (hd : d.length ≤ 1000000) (items : List S25) (hi : items.length ≤ 1000000) : ∀ (m : Nat) (out : List Int), items.length - out.length = m → out.length ≤ items.length → Ev (fun k => atom_Classes.l0 k d out items items.length out.length) (finP (((items.drop out.length).map (classV d)).foldl stepP out), 0) := by
  intro m
  induction m with
  | zero =>
    intro out ho hle
    rw [List.drop_eq_nil_of_le (by omega), List.map_nil, List.foldl_nil]
    refine Ev.step (fun k => by rw [atom_Classes.l0]) ?_
    refine ev_if (fun h => by omega) fun _ => ?_
    unfold finP lastI
    refine ev_if (fun h => ?_) fun h => ev_now (by rw [if_neg (by omega)])
    rw [wr (n := (out.length : Int) - 1) (by omega)]
    refine ev_if (fun _ => ?_) fun h => by omega
    refine ev_if (fun _ => ?_) fun h => by omega
    refine ev_if (fun h2 => ev_now ?_) fun h2 => ev_now ?_
    · rw [if_pos ⟨by omega, h2⟩, show ((out.length : Int) - 1).toNat = out.length - 1 by omega]
    · rw [if_neg (fun e => h2 e.2)]
  | succ m ih =>
    intro out ho hle
    have hlt : out.length < items.length := by omega
    rw [List.drop_eq_getElem_cons hlt, List.map_cons, List.foldl_cons]
    have nxt : ∀ o2 : List Int, o2.length = out.length + 1 → Ev (fun k => atom_Classes.l0 k d o2 items items.length ((out.length : Int) + 1)) (finP (((items.drop (out.length + 1)).map (classV d)).foldl stepP o2), 0) := fun o2 h2 => by
      have := ih o2 (by omega) (by omega)
      rw [h2] at this
      exact_mod_cast this
    generalize hc : classV d items[out.length] = c
    refine Ev.step (fun k => by rw [atom_Classes.l0]) ?_
    refine ev_if (fun _ => ?_) fun h => by omega
    refine ev_if (fun _ => ?_) fun h => by omega
    refine ev_if (fun _ => ?_) fun h => by omega
    rw [rdT_at items out.length hlt]
    refine ev_bind (pClass_ev d hd items[out.length]) ?_
    rw [hc, wr (n := (out.length : Int) + 1) (by omega), wr (n := (out.length : Int) - 1) (by omega)]
    unfold stepP
    refine ev_if (fun h2 => ?_) fun h2 => ?_
    · rw [if_pos h2]
      refine ev_if (fun h0 => ?_) fun h0 => ?_
      · refine ev_if (fun _ => ?_) fun h => by omega
        rw [if_pos (.inl (by omega))]
        exact nxt _ (by simp)
      · refine ev_if (fun _ => ?_) fun h => by omega
        refine ev_if (fun _ => ?_) fun h => by omega
        refine ev_bind (inO_ev _) ?_
        refine ev_if (fun hb => ?_) fun hb => ?_
        · refine ev_if (fun _ => ?_) fun h => by omega
          rw [if_pos (.inr hb)]
          exact nxt _ (by simp)
        · refine ev_if (fun _ => ?_) fun h => by omega
          rw [if_neg (fun e => e.elim (fun h => by omega) fun h => hb h)]
          exact nxt _ (by simp)
    · rw [if_neg h2]
      unfold stepF
      refine ev_bind (inC_ev _) ?_
      refine ev_if (fun hb => ?_) fun hb => ?_
      · refine ev_if (fun h0 => ?_) fun h0 => ?_
        · refine ev_if (fun _ => ?_) fun h => by omega
          refine ev_if (fun _ => ?_) fun h => by omega
          refine ev_if (fun hl => ?_) fun hl => ?_
          · simp only [Option.bind_some]
            refine ev_if (fun _ => ?_) fun h => by rw [List.length_set] at h; omega
            rw [if_pos ⟨hb, by omega, hl⟩, show ((out.length : Int) - 1).toNat = out.length - 1 by omega]
            exact nxt _ (by simp)
          · refine ev_if (fun _ => ?_) fun h => by omega
            rw [if_neg (fun e => hl e.2.2)]
            exact nxt _ (by simp)
        · refine ev_if (fun _ => ?_) fun h => by omega
          rw [if_neg (fun e => by omega)]
          exact nxt _ (by simp)
      · refine ev_if (fun _ => ?_) fun h => by omega
        rw [if_neg (fun e => hb e.1)]
        exact nxt _ (by simp)
def rowN (items : List S25) : S25 := ⟨1, ⟨#[]⟩, 0, items⟩
theorem rowN_ok {items : List S25} (h : OkL OkNode items) : OkNode (rowN items) := OkNode.mk _ (show OkI .i64 1 by unfold OkI; decide) (show OkS ⟨#[]⟩ by unfold OkS; decide) (show OkI .i64 0 by unfold OkI; decide) h.1 h.2
def clsB (d : List S59) (items : List S25) : List Int × Int := if (validD d && validB (rowN items)) = true then (clsR (items.map (classV d)), 0) else ([], 1)
theorem clsB_len (d : List S59) (items : List S25) (h : (clsB d items).2 = 0) : (clsB d items).1.length = items.length := by
  unfold clsB at h ⊢
  split at h
  · rename_i hc; rw [if_pos hc, clsR_len, List.length_map]
  · simp at h
theorem len_cnt (items : List S25) : items.length < cnt (rowN items) := by
  rw [cnt_eq]
  have : ∀ l : List S25, l.length ≤ cntL l := by
    intro l
    induction l with
    | nil => simp [cntL]
    | cons x l ih => rw [cntL, List.length_cons]; have := cnt_pos x; omega
  have := this items
  show items.length < 1 + cntL items
  omega
theorem pItems_ev (items : List S25) (h : OkL OkNode items) : Ev (fun k => node_ValidItems.f k items) (validB (rowN items)) := by
  unfold node_ValidItems.f
  exact ev_bind (nValid_ev (rowN items) (rowN_ok h)) (Ev.now _)
theorem pClasses_ev (d : List S59) (items : List S25) (hd : d.length ≤ 1000000) (h : OkL OkNode items) (hi : items.length ≤ 1000000) : Ev (fun k => atom_Classes.f k d items) (clsB d items) := by
  have jt : Ev (fun k => atom_Classes.j0 k d items true) (([] : List Int), (1 : Int)) := Ev.step (fun k => by rw [atom_Classes.j0]) (ev_if (fun _ => Ev.now _) fun h => absurd rfl h)
  have jf : Ev (fun k => atom_Classes.j0 k d items false) (clsR (items.map (classV d)), (0 : Int)) := by
    refine Ev.step (fun k => by rw [atom_Classes.j0]) ?_
    refine ev_if (fun h => by cases h) fun _ => ?_
    have := pCls_l d hd items hi items.length [] (by simp) (by simp)
    simpa [clsR] using this
  unfold atom_Classes.f clsB
  rw [pValid08_eq d hd]
  simp only [Option.bind_some]
  refine ev_if (fun hv => ?_) fun hv => ?_
  · rw [hv, Bool.true_and]
    refine ev_bind (pItems_ev items h) ?_
    cases hb : validB (rowN items) with
    | true => rw [if_pos rfl]; exact jf
    | false => rw [if_neg (by simp)]; exact jt
  · rw [Bool.not_eq_true] at hv
    rw [hv, Bool.false_and, if_neg (by simp)]; exact jt
end Go.Proofs.YthdppkmmfjaiaaaDoor.G.Pure
namespace Go.Proofs.YthdppkmmfjaiaaaDoor.G.Pure
open Go.Proofs.YthdppkmmfjaiaaaDoorW.PrintWords Go.RowKit
set_option linter.unusedVariables false
set_option linter.unusedSimpArgs false
theorem lastI_at (out : List Int) (h : 0 < out.length) : lastI out = out[out.length - 1] := by
  unfold lastI
  rw [show (out.length : Int) - 1 = ((out.length - 1 : Nat) : Int) by omega, rdI_at _ _ (by omega)]
structure Good (out : List Int) : Prop where
  before : ∀ (i : Nat) (h : i + 1 < out.length), out[i + 1] = 2 → opB (out[i]'(by omega)) = false
  behind : ∀ (i : Nat) (h : i + 1 < out.length), out[i]'(by omega) = 2 → out[i + 1] ≠ 2 ∧ clB out[i + 1] = false
  first : ∀ h : 0 < out.length, out[0] ≠ 2
theorem good_nil : Good [] := ⟨fun i h => by simp at h, fun i h => by simp at h, fun h => by simp at h⟩
theorem good_snoc {out : List Int} {c : Int} (g : Good out) (h1 : ∀ h : 0 < out.length, c = 2 → opB (out[out.length - 1]) = false) (h2 : ∀ h : 0 < out.length, out[out.length - 1] = 2 → c ≠ 2 ∧ clB c = false) (h3 : out.length = 0 → c ≠ 2) : Good (out ++ [c]) := by
  have lst : ∀ (i : Nat) (h : i + 1 < (out ++ [c]).length), ¬ i + 1 < out.length → i + 1 = out.length := fun i h hn => by simp at h; omega
  refine ⟨fun i h => ?_, fun i h => ?_, fun h => ?_⟩
  · by_cases hi : i + 1 < out.length
    · rw [List.getElem_append_left hi, List.getElem_append_left (show i < out.length by omega)]; exact g.before i hi
    · have e := lst i h hi
      rw [List.getElem_append_right (show out.length ≤ i + 1 by omega), List.getElem_append_left (show i < out.length by omega)]
      intro hc
      have := h1 (by omega) (by simpa [e] using hc)
      simpa [← e] using this
  · by_cases hi : i + 1 < out.length
    · rw [List.getElem_append_left hi, List.getElem_append_left (show i < out.length by omega)]; exact g.behind i hi
    · have e := lst i h hi
      rw [List.getElem_append_right (show out.length ≤ i + 1 by omega), List.getElem_append_left (show i < out.length by omega)]
      intro hc
      have := h2 (by omega) (by simpa [← e] using hc)
      simpa [e] using this
  · by_cases hi : 0 < out.length
    · rw [List.getElem_append_left hi]; exact g.first hi
    · rw [List.getElem_append_right (show out.length ≤ 0 by omega)]
      have := h3 (by omega)
      simpa using this
theorem good_set {out : List Int} (g : Good out) : Good (out.set (out.length - 1) 0) := by
  have op0 : clB 0 = false := rfl
  refine ⟨fun i h => ?_, fun i h => ?_, fun h => ?_⟩
  · rw [List.length_set] at h
    rw [List.getElem_set, List.getElem_set]
    by_cases hi : out.length - 1 = i + 1
    · rw [if_pos hi]; intro h0; omega
    · rw [if_neg hi, if_neg (by omega)]; exact g.before i h
  · rw [List.length_set] at h
    rw [List.getElem_set, List.getElem_set, if_neg (by omega)]
    by_cases hi : out.length - 1 = i + 1
    · rw [if_pos hi]; intro _; exact ⟨by omega, op0⟩
    · rw [if_neg hi]; exact g.behind i h
  · rw [List.length_set] at h
    rw [List.getElem_set]
    split
    · omega
    · exact g.first h
theorem good_step {out : List Int} (g : Good out) (c : Int) : Good (stepP out c) := by
  unfold stepP
  split
  · rename_i h2
    split
    · exact good_snoc g (fun _ h => by omega) (fun _ _ => ⟨by omega, rfl⟩) (fun _ => by omega)
    · rename_i hn
      have hn1 : ¬ out.length = 0 := fun h => hn (.inl h)
      have hb : opB (lastI out) = false := Bool.eq_false_iff.2 fun h => hn (.inr h)
      rw [lastI_at out (by omega)] at hb
      refine good_snoc g (fun _ _ => hb) (fun h e => ?_) (fun h => absurd h hn1)
      rw [e] at hb; cases hb
  · rename_i h2
    unfold stepF
    split
    · rename_i h
      refine good_snoc (good_set g) (fun _ h => absurd h h2) (fun hl e => ?_) (fun _ => h2)
      simp at e
    · rename_i hn
      refine good_snoc g (fun _ h => absurd h h2) (fun hl e => ⟨h2, Bool.eq_false_iff.2 fun hb => hn ⟨hb, hl, ?_⟩⟩) (fun _ => h2)
      rw [lastI_at out hl]; exact e
theorem good_fold (vs : List Int) : ∀ {out : List Int}, Good out → Good (vs.foldl stepP out) := by
  induction vs with
  | nil => intro out g; exact g
  | cons v vs ih => intro out g; rw [List.foldl_cons]; exact ih (good_step g v)
theorem good_fin {out : List Int} (g : Good out) : Good (finP out) := by
  unfold finP
  split
  · exact good_set g
  · exact g
theorem good_cls (vs : List Int) : Good (clsR vs) := good_fin (good_fold vs good_nil)
theorem fin_last (out : List Int) (h : 0 < (finP out).length) : (finP out)[(finP out).length - 1] ≠ 2 := by
  have hl := fin_len out
  simp only [hl]
  rw [hl] at h
  unfold finP
  split
  · simp
  · rename_i hn
    intro e
    exact hn ⟨h, by rw [lastI_at out h]; exact e⟩
theorem step_keep (out : List Int) (c : Int) (i : Nat) (h : i + 1 < out.length) : (stepP out c)[i]'(by rw [stepP_len]; omega) = out[i] := by
  unfold stepP stepF
  split
  · split <;> rw [List.getElem_append_left (by omega)]
  · split
    · rw [List.getElem_append_left (by simp; omega), List.getElem_set, if_neg (by omega)]
    · rw [List.getElem_append_left (by omega)]
theorem fold_keep (vs : List Int) : ∀ (out : List Int) (i : Nat) (h : i + 1 < out.length), (vs.foldl stepP out)[i]'(by rw [fold_len]; omega) = out[i] := by
  induction vs with
  | nil => intro out i h; rfl
  | cons v vs ih =>
    intro out i h
    have := ih (stepP out v) i (by rw [stepP_len]; omega)
    simp only [List.foldl_cons]
    rw [this, step_keep out v i h]
theorem fin_keep (out : List Int) (i : Nat) (h : i + 1 < out.length) : (finP out)[i]'(by rw [fin_len]; omega) = out[i] := by
  unfold finP
  split
  · rw [List.getElem_set, if_neg (by omega)]
  · rfl
theorem cls_take (vs : List Int) (n i : Nat) (hn : n ≤ vs.length) (h : i + 1 < n) : (clsR vs)[i]'(by rw [clsR_len]; omega) = (clsR (vs.take n))[i]'(by rw [clsR_len, List.length_take]; omega) := by
  have l1 : ((vs.take n).foldl stepP []).length = n := by rw [fold_len, List.length_take]; simp; omega
  have e : vs.foldl stepP [] = (vs.drop n).foldl stepP ((vs.take n).foldl stepP []) := by rw [← List.foldl_append, List.take_append_drop]
  have l2 : ((vs.drop n).foldl stepP ((vs.take n).foldl stepP [])).length = vs.length := by rw [← e, fold_len]; simp
  unfold clsR
  rw [fin_keep ((vs.take n).foldl stepP []) i (by omega)]
  simp only [e]
  rw [fin_keep _ i (by omega), fold_keep _ _ i (by omega)]
theorem formL_take (r : Bool) : ∀ (l : List S25) (n : Nat), formL r l = true → formL r (l.take n) = true
  | [], n, h => by simp [formL]
  | x :: l, 0, h => by simp [formL]
  | x :: l, n + 1, h => by
    rw [formL, Bool.and_eq_true] at h
    rw [List.take_succ_cons, formL, Bool.and_eq_true]
    exact ⟨h.1, formL_take r l n h.2⟩
theorem cntL_take : ∀ (l : List S25) (n : Nat), cntL (l.take n) ≤ cntL l
  | [], n => by simp [cntL]
  | x :: l, 0 => by simp [cntL]
  | x :: l, n + 1 => by rw [List.take_succ_cons, cntL, cntL]; have := cntL_take l n; omega
theorem depL_take : ∀ (l : List S25) (n : Nat), depL (l.take n) ≤ depL l
  | [], n => by simp [depL]
  | x :: l, 0 => by simp [depL]
  | x :: l, n + 1 => by rw [List.take_succ_cons, depL, depL]; have := depL_take l n; omega
theorem valid_take (items : List S25) (n : Nat) (h : validB (rowN items) = true) : validB (rowN (items.take n)) = true := by
  unfold validB at h ⊢
  simp only [Bool.and_eq_true, decide_eq_true_eq] at h ⊢
  obtain ⟨⟨⟨h1, h2⟩, h3⟩, h4⟩ := h
  rw [formB_eq, Bool.and_eq_true] at h2
  rw [cnt_eq] at h3
  rw [dep_eq] at h4
  have a := cntL_take items n
  have b := depL_take items n
  refine ⟨⟨⟨h1, ?_⟩, ?_⟩, ?_⟩
  · rw [formB_eq, Bool.and_eq_true]
    refine ⟨?_, formL_take _ items n h2.2⟩
    have h5 := h2.1
    have hl : (items.take n).length ≤ items.length := by rw [List.length_take]; omega
    have e : ∀ m, shp (rowN items).f0 (rowN items).f1 (rowN items).f2 m = shR ⟨#[]⟩ 0 m := fun m => by unfold shp rowN; simp
    rw [show (rowN items).f3 = items from rfl, e] at h5
    show shp (rowN items).f0 (rowN items).f1 (rowN items).f2 (items.take n).length = true
    rw [e]
    unfold shR at h5 ⊢
    simp only [Bool.and_eq_true, decide_eq_true_eq] at h5 ⊢
    exact ⟨h5.1, by omega⟩
  · rw [cnt_eq]; show 1 + cntL (items.take n) ≤ _; have : (rowN items).f3 = items := rfl; rw [this] at h3; omega
  · rw [dep_eq]; show 1 + depL (items.take n) ≤ _; have : (rowN items).f3 = items := rfl; rw [this] at h4; omega
theorem okL_take {items : List S25} (h : OkL OkNode items) (n : Nat) : OkL OkNode (items.take n) := ⟨by have := h.1; rw [List.length_take]; omega, fun x hx => h.2 x (List.mem_of_mem_take hx)⟩
theorem rd_cls (vs : List Int) (n i : Nat) (hn : n ≤ vs.length) (h : i + 1 < n) : rd (clsR vs) i = rd (clsR (vs.take n)) i := by
  rw [rdI_at _ i (by rw [clsR_len]; omega), rdI_at _ i (by rw [clsR_len, List.length_take]; omega)]
  exact cls_take vs n i hn h
end Go.Proofs.YthdppkmmfjaiaaaDoor.G.Pure
namespace Go.Proofs.YthdppkmmfjaiaaaDoor.G
open Go.RowKit Go.Proofs.YthdppkmmfjaiaaaDoorW.PrintWords Go.Proofs.YthdppkmmfjaiaaaDoorW.PrintLast Go.Proofs.YthdppkmmfjaiaaaDoorW.PrintMore
attribute [local go_sem] max2_int min2_int max_two min_two max_three min_three max_four min_four
set_option linter.unusedVariables false
set_option linter.unusedSimpArgs false
section fpa
def inP (n : Int) : Bool := decide (1 ≤ n) && decide (n ≤ 100)
def inQ (n : Int) : Bool := decide (0 ≤ n) && decide (n ≤ 20000)
set_option maxRecDepth 100000 in
theorem idx3 (x0 x1 x2 : Int) (kk : Nat) (h : kk < 3) (W : World) : (Instr.index 107 (.agg #[.int .i64 x0, .int .i64 x1, .int .i64 x2]) (.int .i64 kk)).run Tryd.prog W = .ok (.int .i64 ([x0, x1, x2].getD kk 0)) W := by
  rcases kk with _ | _ | _ | kk
  · kernel_rfl
  · kernel_rfl
  · kernel_rfl
  · omega
set_option maxRecDepth 100000 in
theorem idx17 (x0 x1 x2 x3 x4 x5 x6 x7 x8 x9 x10 x11 x12 x13 x14 x15 x16 : Int) (kk : Nat) (h : kk < 17) (W : World) : (Instr.index 108 (.agg #[.int .i64 x0, .int .i64 x1, .int .i64 x2, .int .i64 x3, .int .i64 x4, .int .i64 x5, .int .i64 x6, .int .i64 x7, .int .i64 x8, .int .i64 x9, .int .i64 x10, .int .i64 x11, .int .i64 x12, .int .i64 x13, .int .i64 x14, .int .i64 x15, .int .i64 x16]) (.int .i64 kk)).run Tryd.prog W = .ok (.int .i64 ([x0, x1, x2, x3, x4, x5, x6, x7, x8, x9, x10, x11, x12, x13, x14, x15, x16].getD kk 0)) W := by
  rcases kk with _ | _ | _ | _ | _ | _ | _ | _ | _ | _ | _ | _ | _ | _ | _ | _ | _ | kk
  · kernel_rfl
  · kernel_rfl
  · kernel_rfl
  · kernel_rfl
  · kernel_rfl
  · kernel_rfl
  · kernel_rfl
  · kernel_rfl
  · kernel_rfl
  · kernel_rfl
  · kernel_rfl
  · kernel_rfl
  · kernel_rfl
  · kernel_rfl
  · kernel_rfl
  · kernel_rfl
  · kernel_rfl
  · omega
theorem all_false {l : List Int} {p : Int → Bool} {kk : Nat} (h : kk < l.length) (hp : p (l.getD kk 0) = false) : l.all p = false := by
  refine List.all_eq_false.2 ⟨l.getD kk 0, ?_, by rw [hp]; simp⟩
  rw [List.getD_eq_getElem?_getD, List.getElem?_eq_getElem h]
  exact List.getElem_mem h
theorem all_true {l : List Int} {p : Int → Bool} (h : ∀ j, j < l.length → p (l.getD j 0) = true) : l.all p = true := by
  refine List.all_eq_true.2 fun x hx => ?_
  obtain ⟨j, hj, rfl⟩ := List.getElem_of_mem hx
  have := h j hj
  rwa [List.getD_eq_getElem?_getD, List.getElem?_eq_getElem hj] at this
theorem run_loadVar_seg {P : Program} (w : World) (g o : Nat) (t ty : TypeId) (cs : Array Value) (fr : Nat × Nat) (d : TypeDesc) (seg : List Value) (hg : w.heap[g]? = some (.cells cs t fr)) (rest : List Value) (hs : cs.toList.drop o = seg ++ rest)
    (hu : P.underlying ty = some d) (hd : (match d with | .struct _ | .array _ _ => true | _ => false) = true) (hi : (P.info? ty).map (·.size) = some seg.length) :
    (loadVar ty ⟨g, o, none⟩).run P w = .ok (.agg seg.toArray) w := by
  have hl : (loadCells ⟨g, o, none⟩ seg.length).run P w = .ok seg.toArray w :=
    run_loadCells_list (P := P) w ⟨g, o, none⟩ seg (fun j v hv => by
      have hadd : (⟨g, o, none⟩ : Addr).add j = ⟨g, o + j, none⟩ := by unfold Addr.add; split <;> simp_all
      rw [hadd, cell_of_row w g (o + j) cs t fr hg]
      have hlt := (List.getElem?_eq_some_iff.1 hv).1
      have := congrArg (fun l => l[j]?) hs
      simp only [List.getElem?_drop, Array.getElem?_toList, List.getElem?_append_left hlt] at this
      rw [this]; exact hv)
  cases hq : P.info? ty with
  | none => simp [hq] at hi
  | some i =>
    have hs : i.size = seg.length := by simpa [hq] using hi
    have hagg : (isAgg ty).run P w = .ok true w := by
      unfold isAgg
      rw [Sem.run_bind, run_underlying hu w]
      cases d <;> simp_all
    simp [loadVar, Sem.run_bind, hagg, sizeOf, typeInfo, hq, hs, hl]
theorem wpList_load_seg {P : Program} {ops : Array Oper} {rest : List Oper} {o : Oper} {a : Act} {w : World} {Q : Exit → Act → World → Prop} (hgd : o.guard = none) (ty : TypeId) (x : Operand) (ho : o.op = .load ty x)
    (g off : Nat) (hx : a.eval x = .pointer (some ⟨g, off, none⟩)) (t : TypeId) (cs : Array Value) (fr : Nat × Nat) (d : TypeDesc) (seg : List Value) (hg : w.heap[g]? = some (.cells cs t fr)) (rst : List Value) (hs : cs.toList.drop off = seg ++ rst)
    (hu : P.underlying ty = some d) (hd : (match d with | .struct _ | .array _ _ => true | _ => false) = true) (hi : (P.info? ty).map (·.size) = some seg.length)
    (h : wpList P ops Q rest (a.put o.dst (.agg seg.toArray)) w) : wpList P ops Q (o :: rest) a w :=
  wpList_plain hgd fun _ hK => by
    unfold Oper.wp execOp
    simp only [ho, hx, Instr.loadAt, Instr.sureAddr, Sem.run_bind, Sem.run_pure, Result.andThen_ok, run_loadVar_seg w g off t ty cs fr d seg hg rst hs hu hd hi]
    exact hK _ _ h
end fpa
end Go.Proofs.YthdppkmmfjaiaaaDoor.G
namespace Go.Proofs.YthdppkmmfjaiaaaDoor.G
open Go.RowKit Go.Proofs.YthdppkmmfjaiaaaDoorW.PrintWords Go.Proofs.YthdppkmmfjaiaaaDoorW.PrintLast Go.Proofs.YthdppkmmfjaiaaaDoorW.PrintMore
attribute [local go_sem] max2_int min2_int max_two min_two max_three min_three max_four min_four
set_option linter.unusedVariables false
set_option linter.unusedSimpArgs false
def font_params.f (a0_0 a0_1 a0_2 a0_3 a0_4 a0_5 a0_6 a0_7 a0_8 a0_9 a0_10 a0_11 a0_12 a0_13 a0_14 a0_15 a0_16 a0_17 a0_18 a0_19 : Int) : Option Bool := some ([a0_15, a0_16, a0_17].all inP && [a0_0, a0_1, a0_2, a0_3, a0_4, a0_5, a0_6, a0_7, a0_8, a0_9, a0_10, a0_11, a0_12, a0_13, a0_14, a0_18, a0_19].all inQ)
set_option maxHeartbeats 4000000 in
set_option maxRecDepth 100000 in

theorem font_params.calls (a0_0 : Int) (a0_1 : Int) (a0_2 : Int) (a0_3 : Int) (a0_4 : Int) (a0_5 : Int) (a0_6 : Int) (a0_7 : Int) (a0_8 : Int) (a0_9 : Int) (a0_10 : Int) (a0_11 : Int) (a0_12 : Int) (a0_13 : Int) (a0_14 : Int) (a0_15 : Int) (a0_16 : Int) (a0_17 : Int) (a0_18 : Int) (a0_19 : Int) (r : Bool) (w : World) (h : font_params.f a0_0 a0_1 a0_2 a0_3 a0_4 a0_5 a0_6 a0_7 a0_8 a0_9 a0_10 a0_11 a0_12 a0_13 a0_14 a0_15 a0_16 a0_17 a0_18 a0_19 = some r) :
    Calls Tryd.prog 48 #[.agg #[.int .i64 a0_0, .int .i64 a0_1, .int .i64 a0_2, .int .i64 a0_3, .int .i64 a0_4, .int .i64 a0_5, .int .i64 a0_6, .int .i64 a0_7, .int .i64 a0_8, .int .i64 a0_9, .int .i64 a0_10, .int .i64 a0_11, .int .i64 a0_12, .int .i64 a0_13, .int .i64 a0_14, .int .i64 a0_15, .int .i64 a0_16, .int .i64 a0_17, .int .i64 a0_18, .int .i64 a0_19]] w fun e w' => e = .returned (.bool r) ∧ Below w.heap.size w w' := by
  unfold font_params.f at h
  have HH := Aside0.mk (Option.some.inj h)
  clear h
  have hu := Tryd.underlying33
  have HB0 := Aside0.mk (below_alloc (Below.refl w.heap.size w) (.cells #[.int .i64 a0_0, .int .i64 a0_1, .int .i64 a0_2, .int .i64 a0_3, .int .i64 a0_4, .int .i64 a0_5, .int .i64 a0_6, .int .i64 a0_7, .int .i64 a0_8, .int .i64 a0_9, .int .i64 a0_10, .int .i64 a0_11, .int .i64 a0_12, .int .i64 a0_13, .int .i64 a0_14, .int .i64 a0_15, .int .i64 a0_16, .int .i64 a0_17, .int .i64 a0_18, .int .i64 a0_19] 33))
  go_enter Tryd.func48, Tryd.ntmps48
  go_wp2_with fail
  go_loopg [4, 14] 3 (fun gg _ v14 wr => ∃ kk : Nat, kk ≤ 3 ∧ 3 - kk ≤ gg ∧ v14 = .int .i64 kk ∧ Aside0 (wr = w.alloc (.cells #[.int .i64 a0_0, .int .i64 a0_1, .int .i64 a0_2, .int .i64 a0_3, .int .i64 a0_4, .int .i64 a0_5, .int .i64 a0_6, .int .i64 a0_7, .int .i64 a0_8, .int .i64 a0_9, .int .i64 a0_10, .int .i64 a0_11, .int .i64 a0_12, .int .i64 a0_13, .int .i64 a0_14, .int .i64 a0_15, .int .i64 a0_16, .int .i64 a0_17, .int .i64 a0_18, .int .i64 a0_19] 33)) ∧ Aside0 (∀ j, j < kk → inP ([a0_15, a0_16, a0_17].getD j 0) = true))
  case atStart => exact ⟨0, Nat.zero_le _, by omega, rfl, ⟨rfl⟩, ⟨fun j hj => absurd hj (Nat.not_lt_zero _)⟩⟩
  case round =>
    obtain ⟨kk, hkk, hgk, rfl, HW, HA⟩ := hrel
    by_cases hlt : kk < 3
    · have hd : decide ((kk : Int) < 3) = true := decide_eq_true (by omega)
      have hi := idx3 a0_15 a0_16 a0_17 kk hlt wr
      obtain ⟨y, hy⟩ : ∃ y, [a0_15, a0_16, a0_17].getD kk 0 = y := ⟨_, rfl⟩
      rw [hy] at hi
      have HY := Aside0.mk hy
      clear hy
      by_cases h1 : y < 1
      · have d1 : decide (y < 1) = true := decide_eq_true h1
        have HF : Aside0 (r = false) := ⟨by rw [← HH.out, all_false (kk := kk) (by simpa using hlt) (by rw [HY.out]; unfold inP; rw [decide_eq_false (by omega)]; rfl)]; rfl⟩
        go_wp2
        go_ret
        exact ⟨by rw [HF.out]; rfl, HW.out ▸ HB0.out⟩
      · have d1 : decide (y < 1) = false := decide_eq_false h1
        by_cases h2 : 100 < y
        · have d2 : decide (100 < y) = true := decide_eq_true h2
          have HF : Aside0 (r = false) := ⟨by rw [← HH.out, all_false (kk := kk) (by simpa using hlt) (by rw [HY.out]; unfold inP; rw [decide_eq_false (show ¬ y ≤ 100 by omega)]; simp)]; rfl⟩
          go_wp2
          go_ret
          exact ⟨by rw [HF.out]; rfl, HW.out ▸ HB0.out⟩
        · have d2 : decide (100 < y) = false := decide_eq_false h2
          have HG : Aside0 (inP y = true) := ⟨by unfold inP; rw [decide_eq_true (by omega), decide_eq_true (by omega)]; rfl⟩
          go_wp2
          go_roundg (3 - (kk + 1))
          case measure => omega
          case rel =>
            refine ⟨kk + 1, by omega, Nat.le_refl _, by go_num, HW, ⟨fun j hj => ?_⟩⟩
            rcases Nat.lt_or_ge j kk with h | h
            · exact HA.out j h
            · obtain rfl : j = kk := by omega
              rw [HY.out]; exact HG.out
    · have hd : decide ((kk : Int) < 3) = false := decide_eq_false (by omega)
      have HP : Aside0 ([a0_15, a0_16, a0_17].all inP = true) := ⟨all_true fun j hj => HA.out j (by simp at hj; omega)⟩
      have hw := HW.out
      subst hw
      clear HA HW
      go_wp2_with fail
      go_loopg [6, 59] 17 (fun gg _ v59 wr => ∃ kk : Nat, kk ≤ 17 ∧ 17 - kk ≤ gg ∧ v59 = .int .i64 kk ∧ Aside0 (Below w.heap.size w wr) ∧ Aside0 (∀ j, j < kk → inQ ([a0_0, a0_1, a0_2, a0_3, a0_4, a0_5, a0_6, a0_7, a0_8, a0_9, a0_10, a0_11, a0_12, a0_13, a0_14, a0_18, a0_19].getD j 0) = true))
      case atStart => exact ⟨0, Nat.zero_le _, by omega, rfl, HB0, ⟨fun j hj => absurd hj (Nat.not_lt_zero _)⟩⟩
      case round =>
        obtain ⟨kk, hkk, hgk, rfl, HW, HA⟩ := hrel
        by_cases hlt : kk < 17
        · have hd : decide ((kk : Int) < 17) = true := decide_eq_true (by omega)
          have hi := idx17 a0_0 a0_1 a0_2 a0_3 a0_4 a0_5 a0_6 a0_7 a0_8 a0_9 a0_10 a0_11 a0_12 a0_13 a0_14 a0_18 a0_19 kk hlt wr
          obtain ⟨y, hy⟩ : ∃ y, [a0_0, a0_1, a0_2, a0_3, a0_4, a0_5, a0_6, a0_7, a0_8, a0_9, a0_10, a0_11, a0_12, a0_13, a0_14, a0_18, a0_19].getD kk 0 = y := ⟨_, rfl⟩
          rw [hy] at hi
          have HY := Aside0.mk hy
          clear hy
          by_cases h1 : y < 0
          · have d1 : decide (y < 0) = true := decide_eq_true h1
            have HF : Aside0 (r = false) := ⟨by rw [← HH.out, HP.out, Bool.true_and]; exact all_false (kk := kk) (by simpa using hlt) (by rw [HY.out]; unfold inQ; rw [decide_eq_false (by omega)]; rfl)⟩
            go_wp2
            go_ret
            exact ⟨by rw [HF.out]; rfl, HW.out⟩
          · have d1 : decide (y < 0) = false := decide_eq_false h1
            by_cases h2 : 20000 < y
            · have d2 : decide (20000 < y) = true := decide_eq_true h2
              have HF : Aside0 (r = false) := ⟨by rw [← HH.out, HP.out, Bool.true_and]; exact all_false (kk := kk) (by simpa using hlt) (by rw [HY.out]; unfold inQ; rw [decide_eq_false (show ¬ y ≤ 20000 by omega)]; simp)⟩
              go_wp2
              go_ret
              exact ⟨by rw [HF.out]; rfl, HW.out⟩
            · have d2 : decide (20000 < y) = false := decide_eq_false h2
              have HG : Aside0 (inQ y = true) := ⟨by unfold inQ; rw [decide_eq_true (by omega), decide_eq_true (by omega)]; rfl⟩
              go_wp2
              go_roundg (17 - (kk + 1))
              case measure => omega
              case rel =>
                refine ⟨kk + 1, by omega, Nat.le_refl _, by go_num, HW, ⟨fun j hj => ?_⟩⟩
                rcases Nat.lt_or_ge j kk with h | h
                · exact HA.out j h
                · obtain rfl : j = kk := by omega
                  rw [HY.out]; exact HG.out
        · have hd : decide ((kk : Int) < 17) = false := decide_eq_false (by omega)
          have HF : Aside0 (r = true) := ⟨by rw [← HH.out, HP.out, Bool.true_and]; exact all_true fun j hj => HA.out j (by simp at hj; omega)⟩
          go_wp2
          go_ret
          exact ⟨by rw [HF.out]; rfl, HW.out⟩
end Go.Proofs.YthdppkmmfjaiaaaDoor.G
namespace Go.Proofs.YthdppkmmfjaiaaaDoor.G
open Go.RowKit Go.Proofs.YthdppkmmfjaiaaaDoorW.PrintWords Go.Proofs.YthdppkmmfjaiaaaDoorW.PrintLast Go.Proofs.YthdppkmmfjaiaaaDoorW.PrintMore
attribute [local go_sem] max2_int min2_int max_two min_two max_three min_three max_four min_four
set_option linter.unusedVariables false
set_option linter.unusedSimpArgs false
def font_Valid.f (l0_0 : List (S84)) (l0_1 : List (S64)) (a0_2 a0_3 a0_4 a0_5 a0_6 a0_7 a0_8 a0_9 a0_10 a0_11 a0_12 a0_13 a0_14 a0_15 a0_16 a0_17 a0_18 a0_19 a0_20 a0_21 : Int) : Option Bool := if l0_0.length = 0 ∧ l0_1.length = 0 then font_params.f a0_2 a0_3 a0_4 a0_5 a0_6 a0_7 a0_8 a0_9 a0_10 a0_11 a0_12 a0_13 a0_14 a0_15 a0_16 a0_17 a0_18 a0_19 a0_20 a0_21 else none
set_option maxHeartbeats 4000000 in
set_option maxRecDepth 100000 in

theorem font_Valid.calls (A0_0 : Option Addr) (c0_0 : Nat) (l0_0 : List (S84)) (A0_1 : Option Addr) (c0_1 : Nat) (l0_1 : List (S64)) (a0_2 : Int) (a0_3 : Int) (a0_4 : Int) (a0_5 : Int) (a0_6 : Int) (a0_7 : Int) (a0_8 : Int) (a0_9 : Int) (a0_10 : Int) (a0_11 : Int) (a0_12 : Int) (a0_13 : Int) (a0_14 : Int) (a0_15 : Int) (a0_16 : Int) (a0_17 : Int) (a0_18 : Int) (a0_19 : Int) (a0_20 : Int) (a0_21 : Int) (r : Bool) (w : World) (hr0_0 : Kd.C k84 w A0_0 l0_0.length l0_0) (hc0_0 : l0_0.length ≤ c0_0) (hr0_1 : Kd.C k64 w A0_1 l0_1.length l0_1) (hc0_1 : l0_1.length ≤ c0_1) (h : font_Valid.f l0_0 l0_1 a0_2 a0_3 a0_4 a0_5 a0_6 a0_7 a0_8 a0_9 a0_10 a0_11 a0_12 a0_13 a0_14 a0_15 a0_16 a0_17 a0_18 a0_19 a0_20 a0_21 = some r) :
    Calls Tryd.prog 27 #[.agg #[.slice A0_0 l0_0.length c0_0, .slice A0_1 l0_1.length c0_1, .int .i64 a0_2, .int .i64 a0_3, .int .i64 a0_4, .int .i64 a0_5, .int .i64 a0_6, .int .i64 a0_7, .int .i64 a0_8, .int .i64 a0_9, .int .i64 a0_10, .int .i64 a0_11, .int .i64 a0_12, .int .i64 a0_13, .int .i64 a0_14, .int .i64 a0_15, .int .i64 a0_16, .int .i64 a0_17, .int .i64 a0_18, .int .i64 a0_19, .int .i64 a0_20, .int .i64 a0_21]] w fun e w' => e = .returned (.bool r) ∧ Below w.heap.size w w' := by
  unfold font_Valid.f at h
  split at h
  case isFalse => cases h
  rename_i hz
  have HH := Aside0.mk h
  have z0 := hz.1
  have z1 := hz.2
  clear h hz hr0_0 hc0_0 hr0_1 hc0_1
  rw [z0, z1]
  have hu := Tryd.underlying35
  have hmm := @run_makeMap Tryd.prog
  have X1 := Aside0.mk (blk_alloc (blk_alloc (blk_new w (.cells #[.slice A0_0 0 c0_0, .slice A0_1 0 c0_1, .int .i64 a0_2, .int .i64 a0_3, .int .i64 a0_4, .int .i64 a0_5, .int .i64 a0_6, .int .i64 a0_7, .int .i64 a0_8, .int .i64 a0_9, .int .i64 a0_10, .int .i64 a0_11, .int .i64 a0_12, .int .i64 a0_13, .int .i64 a0_14, .int .i64 a0_15, .int .i64 a0_16, .int .i64 a0_17, .int .i64 a0_18, .int .i64 a0_19, .int .i64 a0_20, .int .i64 a0_21] 35)) (.map #[] 0)) (.cells #[.map (some (w.heap.size + 1))] 82))
  have HB1 := Aside0.mk (below_alloc (below_alloc (below_alloc (Below.refl w.heap.size w) (.cells #[.slice A0_0 0 c0_0, .slice A0_1 0 c0_1, .int .i64 a0_2, .int .i64 a0_3, .int .i64 a0_4, .int .i64 a0_5, .int .i64 a0_6, .int .i64 a0_7, .int .i64 a0_8, .int .i64 a0_9, .int .i64 a0_10, .int .i64 a0_11, .int .i64 a0_12, .int .i64 a0_13, .int .i64 a0_14, .int .i64 a0_15, .int .i64 a0_16, .int .i64 a0_17, .int .i64 a0_18, .int .i64 a0_19, .int .i64 a0_20, .int .i64 a0_21] 35)) (.map #[] 0)) (.cells #[.map (some (w.heap.size + 1))] 82))
  go_enter Tryd.func27, Tryd.ntmps27
  go_wp2_with fail
  go_loopg [15] 0 (fun _ v15 wr => v15 = .int .i64 0 ∧ Aside0 (Below w.heap.size w wr) ∧ Aside0 (wr.heap[w.heap.size]? = some (.cells #[.slice A0_0 0 c0_0, .slice A0_1 0 c0_1, .int .i64 a0_2, .int .i64 a0_3, .int .i64 a0_4, .int .i64 a0_5, .int .i64 a0_6, .int .i64 a0_7, .int .i64 a0_8, .int .i64 a0_9, .int .i64 a0_10, .int .i64 a0_11, .int .i64 a0_12, .int .i64 a0_13, .int .i64 a0_14, .int .i64 a0_15, .int .i64 a0_16, .int .i64 a0_17, .int .i64 a0_18, .int .i64 a0_19, .int .i64 a0_20, .int .i64 a0_21] 35 (0, 0))))
  case atStart => exact ⟨rfl, HB1, X1⟩
  case round =>
    obtain ⟨rfl, HW, HX⟩ := hrel
    clear HB1 X1
    have c1 := (blk_cell (blk_alloc HX.out (.map #[] 0)) 1).trans rfl
    go_wp2_with fail
    have HB2 := Aside0.mk (below_alloc HW.out (.map #[] 0))
    have X2 := Aside0.mk (blk_alloc HX.out (.map #[] 0))
    clear c1 HX HW
    go_loopg [53] 0 (fun _ v53 wr => v53 = .int .i64 0 ∧ Aside0 (Below w.heap.size w wr) ∧ Aside0 (wr.heap[w.heap.size]? = some (.cells #[.slice A0_0 0 c0_0, .slice A0_1 0 c0_1, .int .i64 a0_2, .int .i64 a0_3, .int .i64 a0_4, .int .i64 a0_5, .int .i64 a0_6, .int .i64 a0_7, .int .i64 a0_8, .int .i64 a0_9, .int .i64 a0_10, .int .i64 a0_11, .int .i64 a0_12, .int .i64 a0_13, .int .i64 a0_14, .int .i64 a0_15, .int .i64 a0_16, .int .i64 a0_17, .int .i64 a0_18, .int .i64 a0_19, .int .i64 a0_20, .int .i64 a0_21] 35 (0, 0))))
    case atStart => exact ⟨rfl, HB2, X2⟩
    case round =>
      obtain ⟨rfl, HW, HX⟩ := hrel
      clear HB2 X2
      have c0 := (blk_cell HX.out 0).trans rfl
      have c1 := (blk_cell HX.out 1).trans rfl
      go_wp2_with (first
        | ((with_reducible refine gate_dst (N := 83) rfl ?_); refine gate_guard (by rfl) ?_; dsimp only; refine wpList_load_seg rfl 33 _ rfl w.heap.size 2 rfl 35 _ (0, 0) _ [.int .i64 a0_2, .int .i64 a0_3, .int .i64 a0_4, .int .i64 a0_5, .int .i64 a0_6, .int .i64 a0_7, .int .i64 a0_8, .int .i64 a0_9, .int .i64 a0_10, .int .i64 a0_11, .int .i64 a0_12, .int .i64 a0_13, .int .i64 a0_14, .int .i64 a0_15, .int .i64 a0_16, .int .i64 a0_17, .int .i64 a0_18, .int .i64 a0_19, .int .i64 a0_20, .int .i64 a0_21] HX.out [] rfl Tryd.underlying33 rfl (by kernel_rfl) ?_)
        | fail)
      refine (font_params.calls a0_2 a0_3 a0_4 a0_5 a0_6 a0_7 a0_8 a0_9 a0_10 a0_11 a0_12 a0_13 a0_14 a0_15 a0_16 a0_17 a0_18 a0_19 a0_20 a0_21 r _ HH.out).mono ?_
      rintro e w2 ⟨rfl, hb⟩
      have HB3 := Aside0.mk (below_step HW.out hb)
      clear hb
      go_wp2
      go_ret
      exact ⟨rfl, HB3.out⟩
end Go.Proofs.YthdppkmmfjaiaaaDoor.G
namespace Go.Proofs.YthdppkmmfjaiaaaDoor.G
open Go.RowKit Go.Proofs.YthdppkmmfjaiaaaDoorW.PrintWords Go.Proofs.YthdppkmmfjaiaaaDoorW.PrintLast Go.Proofs.YthdppkmmfjaiaaaDoorW.PrintMore
attribute [local go_sem] max2_int min2_int max_two min_two max_three min_three max_four min_four
set_option linter.unusedVariables false
set_option linter.unusedSimpArgs false
def style_Valid.f (a0_0 : Int) (a0_1 : Bool) : Option (Bool) := if a0_0 ≥ 0 then (some (decide (a0_0 ≤ 3))) else (some false)
set_option maxHeartbeats 8000000 in
set_option maxRecDepth 100000 in
theorem style_Valid.calls (a0_0 : Int) (a0_1 : Bool) (r : Bool) (w : World) (h : style_Valid.f a0_0 a0_1 = some r) :
    Calls Tryd.prog 42 #[.agg #[.int .i64 a0_0, .bool a0_1]] w fun e w' => e = .returned (.bool r) ∧ Below w.heap.size w w' := by
  have hu38 := Tryd.underlying38
  have HB := Aside0.mk (Below.refl w.heap.size w)
  have H : (if a0_0 ≥ 0 then (some (decide (a0_0 ≤ 3))) else (some false)) = some r := h
  clear h
  by_cases c2 : a0_0 ≥ 0
  · rw [if_pos c2] at H
    have c2b0 : decide (0 ≤ a0_0) = true := decide_eq_true c2
    clear c2
    obtain rfl := Option.some.inj H
    go_enter Tryd.func42, Tryd.ntmps42
    go_wp2_with (first | ((with_reducible refine gate_dst (N := 1) rfl ?_); refine box_event ?hg (N := 1) ?hd (cs := #[.int .i64 a0_0, .bool a0_1]) (t := 38) ?hr ?_; (case hd => rfl); (case hg => rfl); (case hr => first | (go_simp; done) | (go_simp; rfl)); intro gb101 hg w3 hbox hb; have n0_ := Aside0.mk (below_step (by repeat (first | (with_reducible first | exact HB.out | apply below_alloc | apply pw_below_drewN | apply below_drew1) | exact HB.out)) hb); have n1_ := Aside0.mk (hbox); have n2_ := Aside0.mk ((by rw [hg]; exact (below_size (by repeat (first | (with_reducible first | exact HB.out | apply below_alloc | apply pw_below_drewN | apply below_drew1) | exact HB.out))) : w.heap.size ≤ gb101)); have n3_ := Aside0.mk ((by rw [hg]; exact (below_size (by repeat (first | (with_reducible first | exact HB.out | apply below_alloc | apply pw_below_drewN | apply below_drew1) | exact HB.out))) : w.heap.size ≤ gb101)); clear HB; have HB := n0_; have BK101 := n1_; have GW101 := n2_; have GE101 := n3_; clear n0_ n1_ n2_ n3_; clear hb hbox hg; have hcz4_0 : w3.cell? ⟨gb101, 0, none⟩ = some (.int .i64 a0_0) := (blk_cell BK101.out 0).trans rfl; have hcz4_1 : w3.cell? ⟨gb101, 1, none⟩ = some (.bool a0_1) := (blk_cell BK101.out 1).trans rfl; have hfz4_0 := blk_frozen BK101.out 0; have hfz4_1 := blk_frozen BK101.out 1))
    go_ret
    exact ⟨by first | rfl | (simp [errW_none, errW_some] <;> rfl) | (simp [*, errW_none, errW_some] <;> rfl), by repeat (first | (with_reducible first | exact HB.out | apply below_alloc | apply pw_below_drewN | apply below_drew1 | refine below_set ?_ GE101.out) | exact HB.out)⟩
  · rw [if_neg c2] at H
    have c2b0 : decide (0 ≤ a0_0) = false := decide_eq_false c2
    clear c2
    obtain rfl := Option.some.inj H
    go_enter Tryd.func42, Tryd.ntmps42
    go_wp2_with (first | ((with_reducible refine gate_dst (N := 1) rfl ?_); refine box_event ?hg (N := 1) ?hd (cs := #[.int .i64 a0_0, .bool a0_1]) (t := 38) ?hr ?_; (case hd => rfl); (case hg => rfl); (case hr => first | (go_simp; done) | (go_simp; rfl)); intro gb101 hg w5 hbox hb; have n0_ := Aside0.mk (below_step (by repeat (first | (with_reducible first | exact HB.out | apply below_alloc | apply pw_below_drewN | apply below_drew1) | exact HB.out)) hb); have n1_ := Aside0.mk (hbox); have n2_ := Aside0.mk ((by rw [hg]; exact (below_size (by repeat (first | (with_reducible first | exact HB.out | apply below_alloc | apply pw_below_drewN | apply below_drew1) | exact HB.out))) : w.heap.size ≤ gb101)); have n3_ := Aside0.mk ((by rw [hg]; exact (below_size (by repeat (first | (with_reducible first | exact HB.out | apply below_alloc | apply pw_below_drewN | apply below_drew1) | exact HB.out))) : w.heap.size ≤ gb101)); clear HB; have HB := n0_; have BK101 := n1_; have GW101 := n2_; have GE101 := n3_; clear n0_ n1_ n2_ n3_; clear hb hbox hg; have hcz6_0 : w5.cell? ⟨gb101, 0, none⟩ = some (.int .i64 a0_0) := (blk_cell BK101.out 0).trans rfl; have hcz6_1 : w5.cell? ⟨gb101, 1, none⟩ = some (.bool a0_1) := (blk_cell BK101.out 1).trans rfl; have hfz6_0 := blk_frozen BK101.out 0; have hfz6_1 := blk_frozen BK101.out 1))
    go_ret
    exact ⟨by first | rfl | (simp [errW_none, errW_some] <;> rfl) | (simp [*, errW_none, errW_some] <;> rfl), by repeat (first | (with_reducible first | exact HB.out | apply below_alloc | apply pw_below_drewN | apply below_drew1 | refine below_set ?_ GE101.out) | exact HB.out)⟩
end Go.Proofs.YthdppkmmfjaiaaaDoor.G
