-- Written by pack2.py, a program of this session: this session's texts and those that the kit's printer wrote for this claim, pruned to what the claims use.
import Derived.Test.YthdppkmmfjaiaaaGreatDoorCAc17
import Derived.Test.YthdppkmmfjaiaaaGreatDoorCAc18
import Derived.Test.YthdppkmmfjaiaaaGreatDoorCAc2
namespace Go.Proofs.YthdppkmmfjaiaaaGreatDoor.G.Pure
open Go.Proofs.YthdppkmmfjaiaaaGreatDoorW.PrintWords Go.RowKit
set_option linter.unusedVariables false
set_option linter.unusedSimpArgs false
def opB (c : Int) : Bool := c == 2 || c == 1 || c == 3 || c == 4 || c == 6
def clB (c : Int) : Bool := c == 3 || c == 5 || c == 6
def lastI (out : List Int) : Int := rd out ((out.length : Int) - 1)
def stepF (out : List Int) (c : Int) : List Int := if clB c = true ∧ 0 < out.length ∧ lastI out = 2 then out.set (out.length - 1) 0 ++ [c] else out ++ [c]
def stepP (out : List Int) (c : Int) : List Int := if c = 2 then (if out.length = 0 ∨ opB (lastI out) = true then out ++ [0] else out ++ [c]) else stepF out c
def finP (out : List Int) : List Int := if 0 < out.length ∧ lastI out = 2 then out.set (out.length - 1) 0 else out
def clsR (vs : List Int) : List Int := finP (vs.foldl stepP [])
theorem rdI_at (l : List Int) (i : Nat) (h : i < l.length) : rd l i = l[i] := by simp [rd, h]
theorem rd_app (a b : List Int) (i : Int) (h0 : 0 ≤ i) (h : i < a.length) : rd (a ++ b) i = rd a i := by
  obtain ⟨n, rfl⟩ := Int.eq_ofNat_of_zero_le h0
  rw [show ((n : Nat) : Int) = (n : Int) from rfl]
  have h' : n < a.length := by omega
  rw [rdI_at _ n (by simp; omega), rdI_at _ n h', List.getElem_append_left h']
theorem rd_mid (a : List Int) (c : Int) (b : List Int) : rd (a ++ c :: b) a.length = c := by
  rw [rdI_at _ a.length (by simp)]
  simp
theorem stepF_len (out : List Int) (c : Int) : (stepF out c).length = out.length + 1 := by
  unfold stepF
  split <;> simp
theorem stepP_len (out : List Int) (c : Int) : (stepP out c).length = out.length + 1 := by
  unfold stepP
  split
  · split <;> simp
  · exact stepF_len _ _
theorem fold_len (vs : List Int) : ∀ out : List Int, (vs.foldl stepP out).length = out.length + vs.length := by
  induction vs with
  | nil => intro out; rfl
  | cons v vs ih => intro out; rw [List.foldl_cons, ih, stepP_len, List.length_cons]; omega
theorem fin_len (out : List Int) : (finP out).length = out.length := by
  unfold finP
  split <;> simp
theorem clsR_len (vs : List Int) : (clsR vs).length = vs.length := by
  unfold clsR
  rw [fin_len, fold_len]; simp
theorem in_l (c : Int) (l : List Int) (hl : l.length ≤ 100) : ∀ (m i : Nat), l.length - i = m → Ev (fun k => atom_in.l0 k c l l.length i) ((l.drop i).any fun x => x == c) := by
  intro m
  induction m with
  | zero =>
    intro i hi
    refine Ev.step (fun k => by rw [atom_in.l0]) ?_
    refine ev_if (fun h => by omega) fun _ => ev_now ?_
    rw [List.drop_eq_nil_of_le (by omega)]; rfl
  | succ m ih =>
    intro i hi
    refine Ev.step (fun k => by rw [atom_in.l0]) ?_
    refine ev_if (fun _ => ?_) fun h => by omega
    refine ev_if (fun _ => ?_) fun h => by omega
    refine ev_if (fun _ => ?_) fun h => by omega
    rw [List.drop_eq_getElem_cons (by omega), List.any_cons, rdI_at _ i (by omega)]
    refine ev_if (fun h => ev_now ?_) fun h => ?_
    · rw [beq_iff_eq.2 h]; rfl
    · rw [beq_eq_false_iff_ne.2 h, Bool.false_or, wr (n := (i : Int) + 1) (by omega)]
      exact_mod_cast ih (i + 1) (by omega)
theorem in_ev (c : Int) (l : List Int) (hl : l.length ≤ 100) : Ev (fun k => atom_in.f k c l) (l.any fun x => x == c) := by
  have := in_l c l hl l.length 0 rfl
  exact_mod_cast this
theorem beqc (a b : Int) : (a == b) = (b == a) := by
  by_cases h : a = b
  · rw [h]
  · rw [beq_eq_false_iff_ne.2 h, beq_eq_false_iff_ne.2 (fun e => h e.symm)]
theorem inO_ev (c : Int) : Ev (fun k => atom_in.f k c [2, 1, 3, 4, 6]) (opB c) := by
  have := in_ev c [2, 1, 3, 4, 6] (by decide)
  rw [show ([2, 1, 3, 4, 6] : List Int).any (fun x => x == c) = opB c by unfold opB; simp only [List.any_cons, List.any_nil, Bool.or_false, beqc _ c, Bool.or_assoc]] at this
  exact this
theorem inC_ev (c : Int) : Ev (fun k => atom_in.f k c [3, 5, 6]) (clB c) := by
  have := in_ev c [3, 5, 6] (by decide)
  rw [show ([3, 5, 6] : List Int).any (fun x => x == c) = clB c by unfold clB; simp only [List.any_cons, List.any_nil, Bool.or_false, beqc _ c, Bool.or_assoc]] at this
  exact this
theorem pCls_l (d : List S75) (hd : d.length ≤ 1000000) (items : List S48) (hi : items.length ≤ 1000000) : ∀ (m : Nat) (out : List Int), items.length - out.length = m → out.length ≤ items.length → Ev (fun k => atom_Classes.l0 k d out items items.length out.length) (finP (((items.drop out.length).map (classV d)).foldl stepP out), 0) := by
  intro m
  induction m with
  | zero =>
    intro out ho hle
    rw [List.drop_eq_nil_of_le (by omega), List.map_nil, List.foldl_nil]
    refine Ev.step (fun k => by rw [atom_Classes.l0]) ?_
    refine ev_if (fun h => by omega) fun _ => ?_
    unfold finP lastI
    refine ev_if (fun h => ?_) fun h => ev_now (by rw [if_neg (by omega)])
    rw [wr (n := (out.length : Int) - 1) (by omega)]
    refine ev_if (fun _ => ?_) fun h => by omega
    refine ev_if (fun _ => ?_) fun h => by omega
    refine ev_if (fun h2 => ev_now ?_) fun h2 => ev_now ?_
    · rw [if_pos ⟨by omega, h2⟩, show ((out.length : Int) - 1).toNat = out.length - 1 by omega]
    · rw [if_neg (fun e => h2 e.2)]
  | succ m ih =>
    intro out ho hle
    have hlt : out.length < items.length := by omega
    rw [List.drop_eq_getElem_cons hlt, List.map_cons, List.foldl_cons]
    have nxt : ∀ o2 : List Int, o2.length = out.length + 1 → Ev (fun k => atom_Classes.l0 k d o2 items items.length ((out.length : Int) + 1)) (finP (((items.drop (out.length + 1)).map (classV d)).foldl stepP o2), 0) := fun o2 h2 => by
      have := ih o2 (by omega) (by omega)
      rw [h2] at this
      exact_mod_cast this
    generalize hc : classV d items[out.length] = c
    refine Ev.step (fun k => by rw [atom_Classes.l0]) ?_
    refine ev_if (fun _ => ?_) fun h => by omega
    refine ev_if (fun _ => ?_) fun h => by omega
    refine ev_if (fun _ => ?_) fun h => by omega
    rw [rdT_at items out.length hlt]
    refine ev_bind (pClass_ev d hd items[out.length]) ?_
    rw [hc, wr (n := (out.length : Int) + 1) (by omega), wr (n := (out.length : Int) - 1) (by omega)]
    unfold stepP
    refine ev_if (fun h2 => ?_) fun h2 => ?_
    · rw [if_pos h2]
      refine ev_if (fun h0 => ?_) fun h0 => ?_
      · refine ev_if (fun _ => ?_) fun h => by omega
        rw [if_pos (.inl (by omega))]
        exact nxt _ (by simp)
      · refine ev_if (fun _ => ?_) fun h => by omega
        refine ev_if (fun _ => ?_) fun h => by omega
        refine ev_bind (inO_ev _) ?_
        refine ev_if (fun hb => ?_) fun hb => ?_
        · refine ev_if (fun _ => ?_) fun h => by omega
          rw [if_pos (.inr hb)]
          exact nxt _ (by simp)
        · refine ev_if (fun _ => ?_) fun h => by omega
          rw [if_neg (fun e => e.elim (fun h => by omega) fun h => hb h)]
          exact nxt _ (by simp)
    · rw [if_neg h2]
      unfold stepF
      refine ev_bind (inC_ev _) ?_
      refine ev_if (fun hb => ?_) fun hb => ?_
      · refine ev_if (fun h0 => ?_) fun h0 => ?_
        · refine ev_if (fun _ => ?_) fun h => by omega
          refine ev_if (fun _ => ?_) fun h => by omega
          refine ev_if (fun hl => ?_) fun hl => ?_
          · simp only [Option.bind_some]
            refine ev_if (fun _ => ?_) fun h => by rw [List.length_set] at h; omega
            rw [if_pos ⟨hb, by omega, hl⟩, show ((out.length : Int) - 1).toNat = out.length - 1 by omega]
            exact nxt _ (by simp)
          · refine ev_if (fun _ => ?_) fun h => by omega
            rw [if_neg (fun e => hl e.2.2)]
            exact nxt _ (by simp)
        · refine ev_if (fun _ => ?_) fun h => by omega
          rw [if_neg (fun e => by omega)]
          exact nxt _ (by simp)
      · refine ev_if (fun _ => ?_) fun h => by omega
        rw [if_neg (fun e => hb e.1)]
        exact nxt _ (by simp)
def rowN (items : List S48) : S48 := ⟨1, ⟨#[]⟩, 0, items⟩
theorem rowN_ok {items : List S48} (h : OkL OkNode items) : OkNode (rowN items) := OkNode.mk _ (show OkI .i64 1 by unfold OkI; decide) (show OkS ⟨#[]⟩ by unfold OkS; decide) (show OkI .i64 0 by unfold OkI; decide) h.1 h.2
def clsB (d : List S75) (items : List S48) : List Int × Int := if (validD d && validB (rowN items)) = true then (clsR (items.map (classV d)), 0) else ([], 1)
theorem clsB_len (d : List S75) (items : List S48) (h : (clsB d items).2 = 0) : (clsB d items).1.length = items.length := by
  unfold clsB at h ⊢
  split at h
  · rename_i hc; rw [if_pos hc, clsR_len, List.length_map]
  · simp at h
theorem len_cnt (items : List S48) : items.length < cnt (rowN items) := by
  rw [cnt_eq]
  have : ∀ l : List S48, l.length ≤ cntL l := by
    intro l
    induction l with
    | nil => simp [cntL]
    | cons x l ih => rw [cntL, List.length_cons]; have := cnt_pos x; omega
  have := this items
  show items.length < 1 + cntL items
  omega
theorem pItems_ev (items : List S48) (h : OkL OkNode items) : Ev (fun k => node_ValidItems.f k items) (validB (rowN items)) := by
  unfold node_ValidItems.f
  exact ev_bind (nValid_ev (rowN items) (rowN_ok h)) (Ev.now _)
theorem pClasses_ev (d : List S75) (items : List S48) (hd : d.length ≤ 1000000) (h : OkL OkNode items) (hi : items.length ≤ 1000000) : Ev (fun k => atom_Classes.f k d items) (clsB d items) := by
  have jt : Ev (fun k => atom_Classes.j0 k d items true) (([] : List Int), (1 : Int)) := Ev.step (fun k => by rw [atom_Classes.j0]) (ev_if (fun _ => Ev.now _) fun h => absurd rfl h)
  have jf : Ev (fun k => atom_Classes.j0 k d items false) (clsR (items.map (classV d)), (0 : Int)) := by
    refine Ev.step (fun k => by rw [atom_Classes.j0]) ?_
    refine ev_if (fun h => by cases h) fun _ => ?_
    have := pCls_l d hd items hi items.length [] (by simp) (by simp)
    simpa [clsR] using this
  unfold atom_Classes.f clsB
  rw [pValid08_eq d hd]
  simp only [Option.bind_some]
  refine ev_if (fun hv => ?_) fun hv => ?_
  · rw [hv, Bool.true_and]
    refine ev_bind (pItems_ev items h) ?_
    cases hb : validB (rowN items) with
    | true => rw [if_pos rfl]; exact jf
    | false => rw [if_neg (by simp)]; exact jt
  · rw [Bool.not_eq_true] at hv
    rw [hv, Bool.false_and, if_neg (by simp)]; exact jt
end Go.Proofs.YthdppkmmfjaiaaaGreatDoor.G.Pure
namespace Go.Proofs.YthdppkmmfjaiaaaGreatDoor.G
open Go.RowKit Go.Proofs.YthdppkmmfjaiaaaGreatDoorW.PrintWords Go.Proofs.YthdppkmmfjaiaaaGreatDoorW.PrintLast Go.Proofs.YthdppkmmfjaiaaaGreatDoorW.PrintMore
attribute [local go_sem] max2_int min2_int max_two min_two max_three min_three max_four min_four
set_option linter.unusedVariables false
set_option linter.unusedSimpArgs false
def vinculumref08_proper.l0 : Nat → Int → ByteArray → Int → Bool → Bool → Option (Bool)
  | 0, _, _, _, _, _ => none
  | k + 1, x3, x281000, x281001, x281002, x281003 => if x3 < (x281000.size : Int) then (if 0 ≤ x3 then (if (bt x281000 x3) < 33 then (some false) else (if (bt x281000 x3) > 126 then (some false) else (vinculumref08_proper.l0 k (wrap64 (x3 + 1)) x281000 x281001 x281002 x281003))) else (none)) else (if (x281000.size : Int) ≥ 1 then (if (x281000.size : Int) ≤ 16 then (if x281001 ≥ 0 then (some (decide (x281001 ≤ 7))) else (some false)) else (some false)) else (some false))
def vinculumref08_proper.f (k : Nat) (a0_0 : ByteArray) (a0_1 : Int) (a0_2 : Bool) (a0_3 : Bool) : Option (Bool) := vinculumref08_proper.l0 k 0 a0_0 a0_1 a0_2 a0_3
set_option maxHeartbeats 8000000 in
set_option maxRecDepth 100000 in
theorem vinculumref08_proper.calls (k : Nat) (a0_0 : ByteArray) (a0_1 : Int) (a0_2 : Bool) (a0_3 : Bool) (r : Bool) (w : World) (h : vinculumref08_proper.f k a0_0 a0_1 a0_2 a0_3 = some r) :
    Calls Tryz.prog 42 #[.agg #[.string a0_0, .int .i64 a0_1, .bool a0_2, .bool a0_3]] w fun e w' => e = .returned (.bool r) ∧ Below w.heap.size w w' := by
  have hu75 := Tryz.underlying75
  have HB := Aside0.mk (Below.refl w.heap.size w)
  have H : (vinculumref08_proper.l0 k 0 a0_0 a0_1 a0_2 a0_3) = some r := h
  clear h
  have H' := Aside0.mk H
  clear H
  go_enter Tryz.func42, Tryz.ntmps42
  go_wp2_with (first | ((with_reducible refine gate_dst (N := 1) rfl ?_); (try (refine gate_guard (by rfl) ?_; dsimp only)); refine box_event ?hg (N := 1) ?hd (cs := #[.string a0_0, .int .i64 a0_1, .bool a0_2, .bool a0_3]) (t := 75) ?hr ?_; (case hd => rfl); (case hg => rfl); (case hr => first | (go_simp; done) | (go_simp; rfl)); intro gb280 hg w2 hbox hb; have n0_ := Aside0.mk (below_step (by repeat (first | (with_reducible first | exact HB.out | apply below_alloc | apply pw_below_drewN | apply below_drew1) | exact HB.out)) hb); have n1_ := Aside0.mk (hbox); have n2_ := Aside0.mk ((by rw [hg]; exact (below_size (by repeat (first | (with_reducible first | exact HB.out | apply below_alloc | apply pw_below_drewN | apply below_drew1) | exact HB.out))) : w.heap.size ≤ gb280)); have n3_ := Aside0.mk ((by rw [hg]; exact (below_size (by repeat (first | (with_reducible first | exact HB.out | apply below_alloc | apply pw_below_drewN | apply below_drew1) | exact HB.out))) : w.heap.size ≤ gb280)); clear HB; have HB := n0_; have BK280 := n1_; have GW280 := n2_; have GE280 := n3_; clear n0_ n1_ n2_ n3_; clear hb hbox hg))
  go_loopg [3] k (fun kq v3 w' => ∃ (x3_1 : Int), v3 = .int .i64 x3_1 ∧ Aside0 (vinculumref08_proper.l0 kq x3_1 a0_0 a0_1 a0_2 a0_3 = some r) ∧ Aside0 (kq ≤ k) ∧ Aside0 (w'.heap[gb280]? = some (.cells #[.string a0_0, .int .i64 a0_1, .bool a0_2, .bool a0_3] 75 (0, 0))) ∧ Aside0 (Below w.heap.size w w'))
  case atStart => exact ⟨(0), (by first | rfl | (simp; done) | (simp [*]; done)), H', ⟨Nat.le_refl _⟩, ⟨by (with_reducible repeat (first | refine blk_drewN ?_ _ | refine blk_drew ?_ | refine blk_alloc ?_ _)); exact BK280.out⟩, ⟨by repeat (first | (with_reducible first | exact HB.out | apply below_alloc | apply pw_below_drewN | apply below_drew1 | refine below_set ?_ GE280.out) | exact HB.out)⟩⟩
  case round =>
    clear H'
    try clear p2
    obtain ⟨x3_1, rfl, HA, HK1, BK280, HB⟩ := hrel
    cases gk with
    | zero => exact absurd HA.out (by simp [vinculumref08_proper.l0])
    | succ k1 =>
      have H := HA.out
      clear HA
      simp only [vinculumref08_proper.l0] at H
      by_cases c3 : x3_1 < (a0_0.size : Int)
      · rw [if_pos c3] at H
        have c3b0 : decide (x3_1 < (a0_0.size : Int)) = true := decide_eq_true c3
        clear c3
        by_cases c4 : 0 ≤ x3_1
        · rw [if_pos c4] at H
          have c4b0 : decide (0 ≤ x3_1) = true := decide_eq_true c4
          clear c4
          by_cases c6 : (bt a0_0 x3_1) < 33
          · rw [if_pos c6] at H
            have c6b0 : decide ((bt a0_0 x3_1) < 33) = true := decide_eq_true c6
            clear c6
            obtain rfl := Option.some.inj H
            have hcz7_0 : wr.cell? ⟨gb280, 0, none⟩ = some (.string a0_0) := (blk_cell BK280.out 0).trans rfl
            have hcz7_1 : wr.cell? ⟨gb280, 1, none⟩ = some (.int .i64 a0_1) := (blk_cell BK280.out 1).trans rfl
            have hcz7_2 : wr.cell? ⟨gb280, 2, none⟩ = some (.bool a0_2) := (blk_cell BK280.out 2).trans rfl
            have hcz7_3 : wr.cell? ⟨gb280, 3, none⟩ = some (.bool a0_3) := (blk_cell BK280.out 3).trans rfl
            have hfz7_0 := blk_frozen BK280.out 0
            have hfz7_1 := blk_frozen BK280.out 1
            have hfz7_2 := blk_frozen BK280.out 2
            have hfz7_3 := blk_frozen BK280.out 3
            have p5 : 0 ≤ (x3_1 : Int) := of_decide_eq_true (by first | (with_reducible assumption) | assumption)
            have q5 : x3_1 < (a0_0.size : Int) := of_decide_eq_true (by first | (with_reducible assumption) | assumption)
            have hx5 := bt_at a0_0 x3_1
            replace p5 := eq_true p5
            replace q5 := eq_true q5
            go_wp2
            go_ret
            exact ⟨by first | rfl | (simp [errW_none, errW_some] <;> rfl) | (simp [*, errW_none, errW_some] <;> rfl), by repeat (first | (with_reducible first | exact HB.out | apply below_alloc | apply pw_below_drewN | apply below_drew1 | refine below_set ?_ GE280.out) | exact HB.out)⟩
          · rw [if_neg c6] at H
            have c6b0 : decide ((bt a0_0 x3_1) < 33) = false := decide_eq_false c6
            clear c6
            by_cases c9 : (bt a0_0 x3_1) > 126
            · rw [if_pos c9] at H
              have c9b0 : decide (126 < (bt a0_0 x3_1)) = true := decide_eq_true c9
              clear c9
              obtain rfl := Option.some.inj H
              have hcz10_0 : wr.cell? ⟨gb280, 0, none⟩ = some (.string a0_0) := (blk_cell BK280.out 0).trans rfl
              have hcz10_1 : wr.cell? ⟨gb280, 1, none⟩ = some (.int .i64 a0_1) := (blk_cell BK280.out 1).trans rfl
              have hcz10_2 : wr.cell? ⟨gb280, 2, none⟩ = some (.bool a0_2) := (blk_cell BK280.out 2).trans rfl
              have hcz10_3 : wr.cell? ⟨gb280, 3, none⟩ = some (.bool a0_3) := (blk_cell BK280.out 3).trans rfl
              have hfz10_0 := blk_frozen BK280.out 0
              have hfz10_1 := blk_frozen BK280.out 1
              have hfz10_2 := blk_frozen BK280.out 2
              have hfz10_3 := blk_frozen BK280.out 3
              have p5 : 0 ≤ (x3_1 : Int) := of_decide_eq_true (by first | (with_reducible assumption) | assumption)
              have q5 : x3_1 < (a0_0.size : Int) := of_decide_eq_true (by first | (with_reducible assumption) | assumption)
              have hx5 := bt_at a0_0 x3_1
              replace p5 := eq_true p5
              replace q5 := eq_true q5
              have p8 : 0 ≤ (x3_1 : Int) := of_decide_eq_true (by first | (with_reducible assumption) | assumption)
              have q8 : x3_1 < (a0_0.size : Int) := of_decide_eq_true (by first | (with_reducible assumption) | assumption)
              have hx8 := bt_at a0_0 x3_1
              replace p8 := eq_true p8
              replace q8 := eq_true q8
              go_wp2
              go_ret
              exact ⟨by first | rfl | (simp [errW_none, errW_some] <;> rfl) | (simp [*, errW_none, errW_some] <;> rfl), by repeat (first | (with_reducible first | exact HB.out | apply below_alloc | apply pw_below_drewN | apply below_drew1 | refine below_set ?_ GE280.out) | exact HB.out)⟩
            · rw [if_neg c9] at H
              have c9b0 : decide (126 < (bt a0_0 x3_1)) = false := decide_eq_false c9
              clear c9
              have H' := Aside0.mk H
              clear H
              have hcz11_0 : wr.cell? ⟨gb280, 0, none⟩ = some (.string a0_0) := (blk_cell BK280.out 0).trans rfl
              have hcz11_1 : wr.cell? ⟨gb280, 1, none⟩ = some (.int .i64 a0_1) := (blk_cell BK280.out 1).trans rfl
              have hcz11_2 : wr.cell? ⟨gb280, 2, none⟩ = some (.bool a0_2) := (blk_cell BK280.out 2).trans rfl
              have hcz11_3 : wr.cell? ⟨gb280, 3, none⟩ = some (.bool a0_3) := (blk_cell BK280.out 3).trans rfl
              have hfz11_0 := blk_frozen BK280.out 0
              have hfz11_1 := blk_frozen BK280.out 1
              have hfz11_2 := blk_frozen BK280.out 2
              have hfz11_3 := blk_frozen BK280.out 3
              have p5 : 0 ≤ (x3_1 : Int) := of_decide_eq_true (by first | (with_reducible assumption) | assumption)
              have q5 : x3_1 < (a0_0.size : Int) := of_decide_eq_true (by first | (with_reducible assumption) | assumption)
              have hx5 := bt_at a0_0 x3_1
              replace p5 := eq_true p5
              replace q5 := eq_true q5
              have p8 : 0 ≤ (x3_1 : Int) := of_decide_eq_true (by first | (with_reducible assumption) | assumption)
              have q8 : x3_1 < (a0_0.size : Int) := of_decide_eq_true (by first | (with_reducible assumption) | assumption)
              have hx8 := bt_at a0_0 x3_1
              replace p8 := eq_true p8
              replace q8 := eq_true q8
              go_wp2
              go_roundg k1
              case measure => have := HK1.out; omega
              case rel => exact ⟨(wrap64 (x3_1 + 1)), (by first | rfl | (simp; done) | (simp [*]; done)), H', ⟨by have := HK1.out; omega⟩, ⟨by (with_reducible repeat (first | refine blk_drewN ?_ _ | refine blk_drew ?_ | refine blk_alloc ?_ _)); exact BK280.out⟩, ⟨by repeat (first | (with_reducible first | exact HB.out | apply below_alloc | apply pw_below_drewN | apply below_drew1 | refine below_set ?_ GE280.out) | exact HB.out)⟩⟩
        · rw [if_neg c4] at H
          exact absurd H (by simp)
      · rw [if_neg c3] at H
        have c3b0 : decide (x3_1 < (a0_0.size : Int)) = false := decide_eq_false c3
        clear c3
        by_cases c12 : (a0_0.size : Int) ≥ 1
        · rw [if_pos c12] at H
          have c12b0 : decide (1 ≤ (a0_0.size : Int)) = true := decide_eq_true c12
          have c12b1 : decide (1 ≤ a0_0.size) = true := decide_eq_true (by omega)
          clear c12
          by_cases c13 : (a0_0.size : Int) ≤ 16
          · rw [if_pos c13] at H
            have c13b0 : decide ((a0_0.size : Int) ≤ 16) = true := decide_eq_true c13
            have c13b1 : decide (a0_0.size ≤ 16) = true := decide_eq_true (by omega)
            clear c13
            by_cases c14 : a0_1 ≥ 0
            · rw [if_pos c14] at H
              have c14b0 : decide (0 ≤ a0_1) = true := decide_eq_true c14
              clear c14
              obtain rfl := Option.some.inj H
              have hcz15_0 : wr.cell? ⟨gb280, 0, none⟩ = some (.string a0_0) := (blk_cell BK280.out 0).trans rfl
              have hcz15_1 : wr.cell? ⟨gb280, 1, none⟩ = some (.int .i64 a0_1) := (blk_cell BK280.out 1).trans rfl
              have hcz15_2 : wr.cell? ⟨gb280, 2, none⟩ = some (.bool a0_2) := (blk_cell BK280.out 2).trans rfl
              have hcz15_3 : wr.cell? ⟨gb280, 3, none⟩ = some (.bool a0_3) := (blk_cell BK280.out 3).trans rfl
              have hfz15_0 := blk_frozen BK280.out 0
              have hfz15_1 := blk_frozen BK280.out 1
              have hfz15_2 := blk_frozen BK280.out 2
              have hfz15_3 := blk_frozen BK280.out 3
              go_wp2
              go_ret
              exact ⟨by first | rfl | (simp [errW_none, errW_some] <;> rfl) | (simp [*, errW_none, errW_some] <;> rfl), by repeat (first | (with_reducible first | exact HB.out | apply below_alloc | apply pw_below_drewN | apply below_drew1 | refine below_set ?_ GE280.out) | exact HB.out)⟩
            · rw [if_neg c14] at H
              have c14b0 : decide (0 ≤ a0_1) = false := decide_eq_false c14
              clear c14
              obtain rfl := Option.some.inj H
              have hcz16_0 : wr.cell? ⟨gb280, 0, none⟩ = some (.string a0_0) := (blk_cell BK280.out 0).trans rfl
              have hcz16_1 : wr.cell? ⟨gb280, 1, none⟩ = some (.int .i64 a0_1) := (blk_cell BK280.out 1).trans rfl
              have hcz16_2 : wr.cell? ⟨gb280, 2, none⟩ = some (.bool a0_2) := (blk_cell BK280.out 2).trans rfl
              have hcz16_3 : wr.cell? ⟨gb280, 3, none⟩ = some (.bool a0_3) := (blk_cell BK280.out 3).trans rfl
              have hfz16_0 := blk_frozen BK280.out 0
              have hfz16_1 := blk_frozen BK280.out 1
              have hfz16_2 := blk_frozen BK280.out 2
              have hfz16_3 := blk_frozen BK280.out 3
              go_wp2
              go_ret
              exact ⟨by first | rfl | (simp [errW_none, errW_some] <;> rfl) | (simp [*, errW_none, errW_some] <;> rfl), by repeat (first | (with_reducible first | exact HB.out | apply below_alloc | apply pw_below_drewN | apply below_drew1 | refine below_set ?_ GE280.out) | exact HB.out)⟩
          · rw [if_neg c13] at H
            have c13b0 : decide ((a0_0.size : Int) ≤ 16) = false := decide_eq_false c13
            have c13b1 : decide (a0_0.size ≤ 16) = false := decide_eq_false (by omega)
            clear c13
            obtain rfl := Option.some.inj H
            have hcz17_0 : wr.cell? ⟨gb280, 0, none⟩ = some (.string a0_0) := (blk_cell BK280.out 0).trans rfl
            have hcz17_1 : wr.cell? ⟨gb280, 1, none⟩ = some (.int .i64 a0_1) := (blk_cell BK280.out 1).trans rfl
            have hcz17_2 : wr.cell? ⟨gb280, 2, none⟩ = some (.bool a0_2) := (blk_cell BK280.out 2).trans rfl
            have hcz17_3 : wr.cell? ⟨gb280, 3, none⟩ = some (.bool a0_3) := (blk_cell BK280.out 3).trans rfl
            have hfz17_0 := blk_frozen BK280.out 0
            have hfz17_1 := blk_frozen BK280.out 1
            have hfz17_2 := blk_frozen BK280.out 2
            have hfz17_3 := blk_frozen BK280.out 3
            go_wp2
            go_ret
            exact ⟨by first | rfl | (simp [errW_none, errW_some] <;> rfl) | (simp [*, errW_none, errW_some] <;> rfl), by repeat (first | (with_reducible first | exact HB.out | apply below_alloc | apply pw_below_drewN | apply below_drew1 | refine below_set ?_ GE280.out) | exact HB.out)⟩
        · rw [if_neg c12] at H
          have c12b0 : decide (1 ≤ (a0_0.size : Int)) = false := decide_eq_false c12
          have c12b1 : decide (1 ≤ a0_0.size) = false := decide_eq_false (by omega)
          clear c12
          obtain rfl := Option.some.inj H
          have hcz18_0 : wr.cell? ⟨gb280, 0, none⟩ = some (.string a0_0) := (blk_cell BK280.out 0).trans rfl
          have hcz18_1 : wr.cell? ⟨gb280, 1, none⟩ = some (.int .i64 a0_1) := (blk_cell BK280.out 1).trans rfl
          have hcz18_2 : wr.cell? ⟨gb280, 2, none⟩ = some (.bool a0_2) := (blk_cell BK280.out 2).trans rfl
          have hcz18_3 : wr.cell? ⟨gb280, 3, none⟩ = some (.bool a0_3) := (blk_cell BK280.out 3).trans rfl
          have hfz18_0 := blk_frozen BK280.out 0
          have hfz18_1 := blk_frozen BK280.out 1
          have hfz18_2 := blk_frozen BK280.out 2
          have hfz18_3 := blk_frozen BK280.out 3
          go_wp2
          go_ret
          exact ⟨by first | rfl | (simp [errW_none, errW_some] <;> rfl) | (simp [*, errW_none, errW_some] <;> rfl), by repeat (first | (with_reducible first | exact HB.out | apply below_alloc | apply pw_below_drewN | apply below_drew1 | refine below_set ?_ GE280.out) | exact HB.out)⟩
end Go.Proofs.YthdppkmmfjaiaaaGreatDoor.G
