-- Written by pack2.py, a program of this session: this session's texts and those that the kit's printer wrote for this claim, pruned to what the claims use.
import Derived.Test.YthdppkmmfjaiaaaDoorCAt16
namespace Go.Proofs.YthdppkmmfjaiaaaDoor.G.Pure
open Go.Proofs.YthdppkmmfjaiaaaDoorW.PrintWords Go.RowKit
set_option linter.unusedVariables false
set_option linter.unusedSimpArgs false
theorem few26_ev (d : List S59) (items : List S25) (h : OkL OkNode items) : Ev (fun k => vinculumlaw26_few.f k d items) (decide (d.length ≤ 300 ∧ cnt (rowN items) ≤ 300)) := by
  unfold vinculumlaw26_few.f vinculumref26_Few.f vinculumref09_ToRow.f
  simp only [Option.bind_some]
  refine ev_if (fun hd => ?_) fun hd => ev_now ?_
  · refine ev_bind (ev_bind (few_ev (rowN items) (rowN_ok h) 300 (by omega) (by omega)) (Ev.now _)) (ev_now ?_)
    rw [decide_eq_decide]; omega
  · exact (decide_eq_false (by omega)).symm
theorem guard26 {α : Type} (d : List S59) (items : List S25) (h : OkL OkNode items) {g : Nat → Option Bool} (hf : d.length ≤ 300 → cnt (rowN items) ≤ 300 → Ev g true) :
    Ev (fun k => (vinculumlaw26_awake.f k).bind fun t429 => (if t429 = true then ((vinculumlaw26_few.f k d items).bind fun t430 => (if t430 = true then g k else (some true))) else (some false))) true := by
  refine ev_bind awake26_ev ?_
  refine ev_if (fun _ => ?_) fun h => absurd rfl h
  refine ev_bind (few26_ev d items h) ?_
  refine ev_if (fun hc => ?_) fun _ => Ev.now _
  rw [decide_eq_true_eq] at hc
  exact hf hc.1 hc.2
theorem find_range {d : List S59} (h : ∀ x ∈ d, properB x.f0 x.f1 = true) (t : ByteArray) : 0 ≤ (findT t d).2.1 ∧ (findT t d).2.1 ≤ 7 := by
  induction d with
  | nil => unfold findT; simp
  | cons x l ih =>
    unfold findT
    split
    · have := h x (by simp)
      unfold properB at this
      simp only [Bool.and_eq_true, decide_eq_true_eq] at this
      exact ⟨this.1.2, this.2⟩
    · exact ih fun y hy => h y (by simp [hy])
theorem classV_range {d : List S59} (hd : d.length ≤ 1000000) (h : ∀ x ∈ d, properB x.f0 x.f1 = true) : ∀ (n : Nat) (x : S25), cnt x ≤ n → 0 ≤ classV d x ∧ classV d x ≤ 7 := by
  intro n
  induction n with
  | zero => intro x hx; have := cnt_pos x; omega
  | succ n ih =>
    intro x hx
    rw [classV_eq d hd x]
    split
    · exact find_range h _
    · split
      · split
        · split
          · exact ih _ (by have := cnt_slot (x := x) (by assumption) (by assumption); omega)
          · omega
        · omega
      · split <;> omega
theorem step_all {p : Int → Prop} {out : List Int} {c : Int} (h : ∀ x ∈ out, p x) (hc : p c) (h0 : p 0) : ∀ x ∈ stepP out c, p x := by
  have snoc : ∀ (l : List Int) (y : Int), (∀ x ∈ l, p x) → p y → ∀ x ∈ l ++ [y], p x := fun l y hl hy x hx => by
    rcases List.mem_append.1 hx with h1 | h1
    · exact hl x h1
    · rw [List.mem_singleton.1 h1]; exact hy
  unfold stepP stepF
  split
  · split
    · exact snoc _ _ h h0
    · exact snoc _ _ h hc
  · split
    · exact snoc _ _ (fun x hx => (List.mem_or_eq_of_mem_set hx).elim (h x) fun e => e ▸ h0) hc
    · exact snoc _ _ h hc
theorem fold_all {p : Int → Prop} (h0 : p 0) : ∀ (vs out : List Int), (∀ x ∈ out, p x) → (∀ x ∈ vs, p x) → ∀ x ∈ vs.foldl stepP out, p x
  | [], out, ho, _ => ho
  | v :: vs, out, ho, hv => by
    rw [List.foldl_cons]
    exact fold_all h0 vs _ (step_all ho (hv v (by simp)) h0) fun x hx => hv x (by simp [hx])
theorem cls_all {p : Int → Prop} (h0 : p 0) (vs : List Int) (hv : ∀ x ∈ vs, p x) : ∀ x ∈ clsR vs, p x := by
  have h := fold_all h0 vs [] (fun x hx => by simp at hx) hv
  unfold clsR finP
  split
  · exact fun x hx => (List.mem_or_eq_of_mem_set hx).elim (h x) fun e => e ▸ h0
  · exact h
theorem clsB_ok {d : List S59} {items : List S25} (h : (clsB d items).2 = 0) : validD d = true ∧ validB (rowN items) = true ∧ clsB d items = (clsR (items.map (classV d)), 0) := by
  unfold clsB at h ⊢
  split at h
  · rename_i hc
    rw [if_pos hc]
    rw [Bool.and_eq_true] at hc
    exact ⟨hc.1, hc.2, rfl⟩
  · simp at h
theorem clsB_bad {d : List S59} {items : List S25} (h : ¬ (clsB d items).2 = 0) : clsB d items = ([], 1) := by
  unfold clsB at h ⊢
  split at h
  · exact absurd rfl h
  · rename_i hc; rw [if_neg hc]
theorem clsB_range {d : List S59} {items : List S25} (hd : d.length ≤ 1000000) (hv : validD d = true) : ∀ x ∈ clsR (items.map (classV d)), 0 ≤ x ∧ x ≤ 7 := by
  refine cls_all (by omega) _ fun x hx => ?_
  obtain ⟨y, _, rfl⟩ := List.mem_map.1 hx
  refine classV_range hd (fun z hz => ?_) _ y (Nat.le_refl _)
  obtain ⟨a, ha, rfl⟩ := List.getElem_of_mem hz
  exact ((validD_iff d).1 hv).1 a ha
end Go.Proofs.YthdppkmmfjaiaaaDoor.G.Pure
