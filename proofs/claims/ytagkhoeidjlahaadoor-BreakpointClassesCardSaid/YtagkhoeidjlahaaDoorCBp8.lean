-- Written by pack2.py, a program of this session: this session's texts and those that the kit's printer wrote for this claim, pruned to what the claims use.
import Derived.Test.YtagkhoeidjlahaaDoorCBp2
import Derived.Test.YtagkhoeidjlahaaDoorCBp7
namespace Go.Proofs.YtagkhoeidjlahaaDoor.G
open Go.RowKit Go.Proofs.YtagkhoeidjlahaaDoorW.PrintWords Go.Proofs.YtagkhoeidjlahaaDoorW.PrintLast Go.Proofs.YtagkhoeidjlahaaDoorW.PrintMore
attribute [local go_sem] max2_int min2_int max_two min_two max_three min_three max_four min_four
set_option linter.unusedVariables false
set_option linter.unusedSimpArgs false
def vinculumref09_Few.f (k : Nat) (a0_0 : Int) (a0_1 : ByteArray) (a0_2 : Int) (l0_3 : List (S36)) (a1 : Int) : Option (Bool) := (vinculumref09_left.f k a0_0 a0_1 a0_2 l0_3 a1).bind fun t207 => (some (decide (t207 ≥ 0)))
set_option maxHeartbeats 8000000 in
set_option maxRecDepth 100000 in
theorem vinculumref09_Few.calls (k : Nat) (a0_0 : Int) (a0_1 : ByteArray) (a0_2 : Int) (A0_3 : Option Addr) (c0_3 : Nat) (l0_3 : List (S36)) (a1 : Int) (r : Bool) (w : World) (hr0_3 : Kd.C k36 w A0_3 l0_3.length l0_3) (hc0_3 : l0_3.length ≤ c0_3) (h : vinculumref09_Few.f k a0_0 a0_1 a0_2 l0_3 a1 = some r) :
    Calls Tryd.prog 61 #[.agg #[.int .i64 a0_0, .string a0_1, .int .i64 a0_2, .slice A0_3 l0_3.length c0_3], .int .i64 a1] w fun e w' => e = .returned (.bool r) ∧ Below w.heap.size w w' := by
  have hu36 := Tryd.underlying36
  have HR0_3 := Aside0.mk hr0_3
  have HC0_3 := Aside0.mk hc0_3
  clear hr0_3 hc0_3
  have HB := Aside0.mk (Below.refl w.heap.size w)
  have H : ((vinculumref09_left.f k a0_0 a0_1 a0_2 l0_3 a1).bind fun t207 => (some (decide (t207 ≥ 0)))) = some r := h
  clear h
  replace H := Option.bind_eq_some_iff.mp H
  obtain ⟨t207, A30, H⟩ := H
  replace H : (some (decide (t207 ≥ 0))) = some r := H
  have A3 := Aside0.mk A30
  clear A30
  obtain rfl := Option.some.inj H
  go_enter Tryd.func61, Tryd.ntmps61
  go_wp2_with (first | ((with_reducible refine gate_dst (N := 2) rfl ?_); refine box_event ?hg (N := 2) ?hd (cs := #[.int .i64 a0_0, .string a0_1, .int .i64 a0_2, .slice A0_3 l0_3.length c0_3]) (t := 36) ?hr ?_; (case hd => rfl); (case hg => rfl); (case hr => first | (go_simp; done) | (go_simp; rfl)); intro gb206 hg w4 hbox hb; have n0_ := Aside0.mk (below_step (by repeat (first | (with_reducible first | exact HB.out | apply below_alloc | apply pw_below_drewN | apply below_drew1) | exact HB.out)) hb); have n1_ := Aside0.mk (hbox); have n2_ := Aside0.mk ((by rw [hg]; exact (below_size (by repeat (first | (with_reducible first | exact HB.out | apply below_alloc | apply pw_below_drewN | apply below_drew1) | exact HB.out))) : w.heap.size ≤ gb206)); have n3_ := Aside0.mk ((by rw [hg]; exact (below_size (by repeat (first | (with_reducible first | exact HB.out | apply below_alloc | apply pw_below_drewN | apply below_drew1) | exact HB.out))) : w.heap.size ≤ gb206)); clear HB; have HB := n0_; have BK206 := n1_; have GW206 := n2_; have GE206 := n3_; clear n0_ n1_ n2_ n3_; clear hb hbox hg; have hcz5_0 : w4.cell? ⟨gb206, 0, none⟩ = some (.int .i64 a0_0) := (blk_cell BK206.out 0).trans rfl; have hcz5_1 : w4.cell? ⟨gb206, 1, none⟩ = some (.string a0_1) := (blk_cell BK206.out 1).trans rfl; have hcz5_2 : w4.cell? ⟨gb206, 2, none⟩ = some (.int .i64 a0_2) := (blk_cell BK206.out 2).trans rfl; have hcz5_3 : w4.cell? ⟨gb206, 3, none⟩ = some (.slice A0_3 l0_3.length c0_3) := (blk_cell BK206.out 3).trans rfl; have hfz5_0 := blk_frozen BK206.out 0; have hfz5_1 := blk_frozen BK206.out 1; have hfz5_2 := blk_frozen BK206.out 2; have hfz5_3 := blk_frozen BK206.out 3) | ((with_reducible refine gate_callee (f := 86) rfl ?_); refine goesL_ (some 7) rfl rfl Tryd.func86 (by kernel_rfl) rfl #[.agg #[.int .i64 a0_0, .string a0_1, .int .i64 a0_2, .slice A0_3 l0_3.length c0_3], .int .i64 a1] rfl (by (try simp only [List.map_toArray, List.map_cons, List.map_nil]); first | done | rfl | (simp only [List.length_drop, List.length_take]; rfl)) ?_; (with_reducible refine (vinculumref09_left.calls k a0_0 a0_1 a0_2 _ _ l0_3 a1 t207 _ ?side1 ?side2 A3.out).mono ?_); (case side1 => repeat (first | exact (Kd.C_below HR0_3.out HB.out) | (with_reducible refine Kd.C_alloc ?_ _) | (with_reducible refine Kd.C_drewN ?_ _) | (with_reducible refine Kd.C_drew ?_))); (case side2 => exact HC0_3.out); rintro e w6 ⟨rfl, hb⟩; refine ⟨_, rfl, ?_⟩; have n0_ := Aside0.mk (blk_below (g := gb206) (o := .cells #[.int .i64 a0_0, .string a0_1, .int .i64 a0_2, .slice A0_3 l0_3.length c0_3] 36 (0, 0)) (by (with_reducible repeat (first | refine blk_drewN ?_ _ | refine blk_drew ?_ | refine blk_alloc ?_ _)); exact BK206.out) hb); have n1_ := Aside0.mk (below_step (by repeat (first | (with_reducible first | exact HB.out | apply below_alloc | apply pw_below_drewN | apply below_drew1 | refine below_set ?_ GE206.out) | exact HB.out)) hb); clear BK206; clear HB; have BK206 := n0_; have HB := n1_; clear n0_ n1_; (try clear hb); (try clear hb2); (try clear hk); (try clear hi)))
  go_ret
  exact ⟨by first | rfl | (simp [errW_none, errW_some] <;> rfl) | (simp [*, errW_none, errW_some] <;> rfl), by repeat (first | (with_reducible first | exact HB.out | apply below_alloc | apply pw_below_drewN | apply below_drew1 | refine below_set ?_ GE206.out) | exact HB.out)⟩
end Go.Proofs.YtagkhoeidjlahaaDoor.G
namespace Go.Proofs.YtagkhoeidjlahaaDoor.G.Pure
open Go.Proofs.YtagkhoeidjlahaaDoorW.PrintWords Go.RowKit
set_option linter.unusedVariables false
set_option linter.unusedSimpArgs false
def shp (kd : Int) (s : ByteArray) (cols : Int) (n : Nat) : Bool :=
  if kd = 1 then shR s cols n else if kd = 12 then shM s cols n
  else if kd = 2 then shT (symB s) cols n 0
  else if kd = 3 then shT (numB (L s)) cols n 0
  else if kd = 4 then shT (priB (L s) && decide (s.size ≤ 200)) cols n 0
  else if kd = 10 then shT (inB accs s) cols n 1
  else if kd = 11 then shT (fenB s) cols n 1
  else if kd = 9 then shT (s.toList == []) cols n 3
  else if 5 ≤ kd ∧ kd ≤ 8 then shT (s.toList == []) cols n 2
  else false
theorem nAcc_ev (s : ByteArray) : Ev (fun k => node_accent.f k s) (inB accs s) := by
  unfold node_accent.f
  exact ev_bind (Contains_ev accs s (by decide)) (Ev.now _)
theorem nPri_ev (s : ByteArray) (hs : s.size ≤ M) : Ev (fun k => node_printable.f k s) (priB (L s) && decide (s.size ≤ 200)) := by
  have := nPri_l s hs s.size 0 rfl
  simpa [node_printable.f] using this
theorem shape_ev (kd : Int) (s : ByteArray) (cols : Int) (n : Nat) (hs : s.size ≤ M) : Ev (fun k => shapeF k kd s cols n) (shp kd s cols n) := by
  unfold shapeF shp
  by_cases h1 : kd = 1
  · simp only [h1, if_true]; exact Ev.now _
  by_cases h12 : kd = 12
  · simp only [h1, h12, if_true, if_false]; exact Ev.now _
  by_cases h2 : kd = 2
  · simp only [h1, h12, h2, if_true, if_false]; exact ev_bind (nSym_ev s hs) (Ev.now _)
  by_cases h3 : kd = 3
  · simp only [h1, h12, h2, h3, if_true, if_false]; exact ev_bind (ev_some (nNum_eq s hs)) (Ev.now _)
  by_cases h4 : kd = 4
  · simp only [h1, h12, h2, h3, h4, if_true, if_false]; exact ev_bind (nPri_ev s hs) (Ev.now _)
  by_cases h10 : kd = 10
  · simp only [h1, h12, h2, h3, h4, h10, if_true, if_false]; exact ev_bind (nAcc_ev s) (Ev.now _)
  by_cases h11 : kd = 11
  · simp only [h1, h12, h2, h3, h4, h10, h11, if_true, if_false]; exact ev_bind (ev_some (nFen_eq s)) (Ev.now _)
  simp only [h1, h12, h2, h3, h4, h10, h11, if_false]
  by_cases h9 : kd = 9
  · simp only [h9, if_true]; exact Ev.now _
  simp only [h9, if_false]
  by_cases h5 : 5 ≤ kd ∧ kd ≤ 8
  · simp only [h5, and_self, if_true]; exact Ev.now _
  · simp only [h5, if_false]; exact Ev.now _
def textB (kd : Int) (s : ByteArray) : Bool :=
  if kd = 2 then symB s else if kd = 3 then numB (L s) else if kd = 4 then decide (s.size ≤ 200) && priB (L s)
  else if kd = 10 then inB accs s else if kd = 11 then fenB s else s.toList == []
def kidsB (kd cols : Int) (n : Nat) : Bool :=
  if kd = 12 then decide (1 ≤ cols) && decide (cols ≤ 16) && decide (1 ≤ n) && decide (n ≤ 256) && ((n : Int) % cols == 0)
  else decide (cols = 0) && (if kd = 1 then decide (n ≤ 200) else if kd = 2 ∨ kd = 3 ∨ kd = 4 then n == 0 else if 5 ≤ kd ∧ kd ≤ 8 then n == 2 else if kd = 9 then n == 3 else if kd = 10 ∨ kd = 11 then n == 1 else false)
theorem text_ev (kd : Int) (s : ByteArray) (cols : Int) (l : List S36) (hs : s.size ≤ M) : Ev (fun k => vinculumref09_text.f k kd s cols l) (textB kd s) := by
  unfold vinculumref09_text.f textB
  refine ev_if (fun h => ?_) fun h => ?_
  · rw [if_pos h]; exact ev_bind (rSym_ev s hs) (Ev.now _)
  rw [if_neg h]
  refine ev_if (fun h => ?_) fun h => ?_
  · rw [if_pos h]; exact ev_bind (rNum_ev s hs) (Ev.now _)
  rw [if_neg h]
  refine ev_if (fun h => ?_) fun h => ?_
  · rw [if_pos h]
    refine ev_if (fun h2 => ?_) fun h2 => ev_now ?_
    · rw [decide_eq_true (show s.size ≤ 200 by omega), Bool.true_and]
      have := rPri_l s hs s.size 0 rfl
      exact ev_bind (by simpa [vinculumref09_Printable.f] using this) (Ev.now _)
    · rw [decide_eq_false (show ¬ s.size ≤ 200 by omega)]; rfl
  rw [if_neg h]
  refine ev_if (fun h => ?_) fun h => ?_
  · rw [if_pos h]
    refine ev_bind (ev_some (show vinculumref09_Accents.f = some accs from rfl)) ?_
    exact ev_bind (In_ev accs s (by decide)) (Ev.now _)
  rw [if_neg h]
  refine ev_if (fun h => ?_) fun h => ?_
  · rw [if_pos h]
    unfold fenB
    refine ev_if (fun h2 => ?_) fun h2 => ev_now ?_
    · refine ev_if (fun _ => ?_) fun h => by omega
      rw [decide_eq_true (show s.size = 2 by omega), Bool.true_and]
      refine ev_bind (has_ev dlm (bt s 0) (by decide)) ?_
      refine ev_if (fun h3 => ?_) fun h3 => ev_now ?_
      · refine ev_if (fun _ => ?_) fun h => by omega
        rw [h3, Bool.true_and]
        exact ev_bind (has_ev dlm (bt s 1) (by decide)) (Ev.now _)
      · rw [Bool.not_eq_true] at h3; rw [h3]; rfl
    · rw [decide_eq_false (show ¬ s.size = 2 by omega)]; rfl
  · rw [if_neg h]; exact Ev.now _
theorem k0_ev (x kd : Int) (b : Bool) : Ev (fun k => vinculumref09_kids.j1 k x kd b) (if b = true then x == 2 else if kd = 9 then x == 3 else if kd = 10 then x == 1 else if kd = 11 then x == 1 else false) := by
  refine Ev.step (fun k => by rw [vinculumref09_kids.j1]) ?_
  refine ev_if (fun h => ev_now ?_) fun h => ?_
  · rw [if_pos h]
  rw [if_neg h]
  refine ev_if (fun h => ev_now ?_) fun h => ?_
  · rw [if_pos h]
  rw [if_neg h]
  refine ev_if (fun h => ev_now ?_) fun h => ?_
  · rw [if_pos h]
  rw [if_neg h]
  refine ev_if (fun h => ev_now ?_) fun h => ev_now ?_
  · rw [if_pos h]
  · rw [if_neg h]
theorem kj0_ev (x kd : Int) (b : Bool) : Ev (fun k => vinculumref09_kids.j0 k x kd b) (if b = true then x == 0 else if 5 ≤ kd ∧ kd ≤ 8 then x == 2 else if kd = 9 then x == 3 else if kd = 10 then x == 1 else if kd = 11 then x == 1 else false) := by
  refine Ev.step (fun k => by rw [vinculumref09_kids.j0]) ?_
  refine ev_if (fun h => ev_now ?_) fun h => ?_
  · rw [if_pos h]
  rw [if_neg h]
  refine ev_if (fun h => ?_) fun h5 => ?_
  · subst h; exact k0_ev x 5 true
  refine ev_if (fun h => ?_) fun h6 => ?_
  · subst h; exact k0_ev x 6 true
  refine ev_if (fun h => ?_) fun h7 => ?_
  · subst h; exact k0_ev x 7 true
  by_cases h8 : kd = 8
  · subst h8; exact k0_ev x 8 true
  · rw [if_neg (by omega), beq_eq_false_iff_ne.2 h8]
    exact k0_ev x kd false
theorem kids_ev (kd : Int) (s : ByteArray) (cols : Int) (l : List S36) : Ev (fun k => vinculumref09_kids.f k kd s cols l) (kidsB kd cols l.length) := by
  unfold vinculumref09_kids.f kidsB
  refine ev_if (fun h => ?_) fun h12 => ?_
  · rw [if_pos h]
    refine ev_if (fun h1 => ?_) fun h1 => ev_now ?_
    · rw [decide_eq_true (show 1 ≤ cols by omega), Bool.true_and]
      refine ev_if (fun h2 => ?_) fun h2 => ev_now ?_
      · rw [decide_eq_true h2, Bool.true_and]
        refine ev_if (fun h3 => ?_) fun h3 => ev_now ?_
        · rw [decide_eq_true (show 1 ≤ l.length by omega), Bool.true_and]
          refine ev_if (fun h4 => ?_) fun h4 => ev_now ?_
          · rw [decide_eq_true (show l.length ≤ 256 by omega), Bool.true_and]
            exact ev_if (fun h5 => by omega) fun _ => Ev.now _
          · rw [decide_eq_false (show ¬ l.length ≤ 256 by omega)]; rfl
        · rw [decide_eq_false (show ¬ 1 ≤ l.length by omega)]; rfl
      · rw [decide_eq_false h2]; rfl
    · rw [decide_eq_false (show ¬ 1 ≤ cols by omega)]; rfl
  rw [if_neg h12]
  refine ev_if (fun hc => ?_) fun hc => ev_now ?_
  · rw [decide_eq_true hc, Bool.true_and]
    have z0 : ((l.length : Int) == 0) = (l.length == 0) := by rw [Bool.eq_iff_iff]; simp
    have z1 : ((l.length : Int) == 1) = (l.length == 1) := by rw [Bool.eq_iff_iff]; simp; omega
    have z2 : ((l.length : Int) == 2) = (l.length == 2) := by rw [Bool.eq_iff_iff]; simp; omega
    have z3 : ((l.length : Int) == 3) = (l.length == 3) := by rw [Bool.eq_iff_iff]; simp; omega
    refine ev_if (fun h => ev_now ?_) fun h1 => ?_
    · rw [if_pos h, decide_eq_decide]; omega
    rw [if_neg h1]
    refine ev_if (fun h => ?_) fun h2 => ?_
    · subst h; rw [if_pos (by omega)]; have := kj0_ev l.length 2 true; rw [if_pos rfl, z0] at this; exact this
    refine ev_if (fun h => ?_) fun h3 => ?_
    · subst h; rw [if_pos (by omega)]; have := kj0_ev l.length 3 true; rw [if_pos rfl, z0] at this; exact this
    by_cases h4 : kd = 4
    · subst h4; rw [if_pos (by omega)]; have := kj0_ev l.length 4 true; rw [if_pos rfl, z0] at this; exact this
    · rw [if_neg (by omega), beq_eq_false_iff_ne.2 h4]
      have := kj0_ev l.length kd false
      rw [if_neg (by simp), z1, z2, z3] at this
      by_cases h5 : 5 ≤ kd ∧ kd ≤ 8
      · rw [if_pos h5] at this ⊢; exact this
      rw [if_neg h5] at this ⊢
      by_cases h9 : kd = 9
      · rw [if_pos h9] at this ⊢; exact this
      rw [if_neg h9] at this ⊢
      by_cases h10 : kd = 10
      · rw [if_pos h10] at this; rw [if_pos (by omega)]; exact this
      rw [if_neg h10] at this
      by_cases h11 : kd = 11
      · rw [if_pos h11] at this; rw [if_pos (by omega)]; exact this
      · rw [if_neg h11] at this; rw [if_neg (by omega)]; exact this
  · rw [decide_eq_false hc]; rfl
theorem shp_eq (kd : Int) (s : ByteArray) (cols : Int) (n : Nat) : (textB kd s && kidsB kd cols n) = shp kd s cols n := by
  have em : (s.toList == []) = s.toList.isEmpty := by cases s.toList <;> rfl
  have hc : decide (cols = 0) = (cols == 0) := by rw [Bool.eq_iff_iff]; simp
  unfold textB kidsB shp shR shM shT
  by_cases h1 : kd = 1
  · subst h1; simp [em, hc, Bool.and_assoc]
  by_cases h12 : kd = 12
  · subst h12; simp [em, hc, Bool.and_assoc]
  by_cases h2 : kd = 2
  · subst h2; simp [em, hc, Bool.and_assoc]
  by_cases h3 : kd = 3
  · subst h3; simp [em, hc, Bool.and_assoc]
  by_cases h4 : kd = 4
  · subst h4; simp [em, hc, Bool.and_assoc, Bool.and_left_comm, Bool.and_comm]
  by_cases h10 : kd = 10
  · subst h10; simp [em, hc, Bool.and_assoc]
  by_cases h11 : kd = 11
  · subst h11; simp [em, hc, Bool.and_assoc]
  by_cases h9 : kd = 9
  · subst h9; simp [em, hc, Bool.and_assoc]
  by_cases h5 : 5 ≤ kd ∧ kd ≤ 8
  · simp [h1, h12, h2, h3, h4, h10, h11, h9, h5, em, hc, Bool.and_assoc]
  · simp [h1, h12, h2, h3, h4, h10, h11, h9, h5, em, hc, Bool.and_assoc]
end Go.Proofs.YtagkhoeidjlahaaDoor.G.Pure
namespace Go.Proofs.YtagkhoeidjlahaaDoor.G
open Go.RowKit Go.Proofs.YtagkhoeidjlahaaDoorW.PrintWords Go.Proofs.YtagkhoeidjlahaaDoorW.PrintLast Go.Proofs.YtagkhoeidjlahaaDoorW.PrintMore
attribute [local go_sem] max2_int min2_int max_two min_two max_three min_three max_four min_four
set_option linter.unusedVariables false
set_option linter.unusedSimpArgs false
section cnt
mutual

def cnt : S36 → Nat
  | ⟨_, _, _, l⟩ => 1 + cntL l
def cntL : List S36 → Nat
  | [] => 0
  | x :: l => cnt x + cntL l
end
theorem cnt_eq (x : S36) : cnt x = 1 + cntL x.f3 := by cases x; simp [cnt]
theorem cntL_mem : ∀ {l : List S36} {x : S36}, x ∈ l → cnt x ≤ cntL l
  | y :: l, x, h => by
    rw [cntL]
    rcases List.mem_cons.1 h with rfl | h
    · omega
    · have := cntL_mem h; omega
end cnt
end Go.Proofs.YtagkhoeidjlahaaDoor.G
namespace Go.Proofs.YtagkhoeidjlahaaDoor.G.Pure
open Go.Proofs.YtagkhoeidjlahaaDoorW.PrintWords Go.RowKit
set_option linter.unusedVariables false
set_option linter.unusedSimpArgs false
mutual
def formB : S36 → Bool
  | ⟨k, s, c, l⟩ => shp k s c l.length && formL (k == 1) l
def formL (row : Bool) : List S36 → Bool
  | [] => true
  | y :: l => !((y.f0 == 1) == row) && formB y && formL row l
end
mutual
def dep : S36 → Nat
  | ⟨_, _, _, l⟩ => 1 + depL l
def depL : List S36 → Nat
  | [] => 0
  | y :: l => max (dep y) (depL l)
end
theorem formB_eq (x : S36) : formB x = (shp x.f0 x.f1 x.f2 x.f3.length && formL (x.f0 == 1) x.f3) := by cases x; simp [formB]
theorem dep_eq (x : S36) : dep x = 1 + depL x.f3 := by cases x; simp [dep]
theorem rdT_at (l : List S36) (i : Nat) (h : i < l.length) : rd_T36 l i = l[i] := by simp [rd_T36, h]
theorem ok_open {x : S36} (h : OkNode x) : x.f1.size ≤ M ∧ x.f3.length ≤ M ∧ ∀ y ∈ x.f3, OkNode y := by
  cases h with
  | mk x h0 h1 h2 hl h3 => exact ⟨h1, hl, h3⟩
theorem cnt_pos (x : S36) : 1 ≤ cnt x := by rw [cnt_eq]; omega
theorem cntL_drop {l : List S36} {i : Nat} (h : i < l.length) : cntL (l.drop i) = cnt l[i] + cntL (l.drop (i + 1)) := by
  rw [List.drop_eq_getElem_cons h, cntL]
theorem form_ev : ∀ (n : Nat) (x : S36), cnt x ≤ n → OkNode x → Ev (fun k => vinculumref09_form.f k x.f0 x.f1 x.f2 x.f3) (formB x) := by
  intro n
  induction n with
  | zero => intro x h; have := cnt_pos x; omega
  | succ n ih =>
    intro x hn hx
    obtain ⟨h1, h2, h3⟩ := ok_open hx
    unfold M at h2
    rw [cnt_eq] at hn
    have loop : ∀ (m i : Nat), x.f3.length - i = m → cntL (x.f3.drop i) ≤ n → Ev (fun k => vinculumref09_form.l0 k i x.f0 x.f1 x.f2 x.f3) (formL (x.f0 == 1) (x.f3.drop i)) := by
      intro m
      induction m with
      | zero =>
        intro i hi _
        refine Ev.step (fun k => by rw [vinculumref09_form.l0]) ?_
        refine ev_if (fun h => by omega) fun _ => ev_now ?_
        rw [List.drop_eq_nil_of_le (by omega), formL]
      | succ m ihm =>
        intro i hi hc
        have hil : i < x.f3.length := by omega
        rw [cntL_drop hil] at hc
        refine Ev.step (fun k => by rw [vinculumref09_form.l0]) ?_
        refine ev_if (fun _ => ?_) fun h => by omega
        refine ev_if (fun _ => ?_) fun h => by omega
        rw [List.drop_eq_getElem_cons hil, formL, rdT_at _ _ hil]
        refine ev_if (fun h => ev_now ?_) fun h => ?_
        · rw [h]; rfl
        · rw [Bool.not_eq_true] at h
          rw [h]
          refine ev_bind (ih x.f3[i] (by omega) (h3 _ (List.getElem_mem hil))) ?_
          refine ev_if (fun h4 => ?_) fun h4 => ev_now ?_
          · rw [h4, wr (n := (i : Int) + 1) (by omega)]
            have := ihm (i + 1) (by omega) (by omega)
            simpa using this
          · rw [Bool.not_eq_true] at h4; rw [h4]; rfl
    refine Ev.step (fun k => by rw [vinculumref09_form.f]) ?_
    rw [formB_eq, ← shp_eq]
    have j0t : Ev (fun k => vinculumref09_form.j0 k true x.f0 x.f1 x.f2 x.f3) false := Ev.step (fun k => by rw [vinculumref09_form.j0]) (ev_if (fun _ => ev_now rfl) fun h => absurd rfl h)
    refine ev_bind (text_ev x.f0 x.f1 x.f2 x.f3 h1) ?_
    refine ev_if (fun h => ?_) fun h => ?_
    · rw [h, Bool.true_and]
      refine ev_bind (kids_ev x.f0 x.f1 x.f2 x.f3) ?_
      cases hk : kidsB x.f0 x.f2 x.f3.length with
      | false => simpa using j0t
      | true =>
        refine Ev.step (fun k => by rw [vinculumref09_form.j0]) ?_
        refine ev_if (fun h => by cases h) fun _ => ?_
        have := loop x.f3.length 0 rfl (by simp; omega)
        simpa using this
    · rw [Bool.not_eq_true] at h; rw [h]; simpa using j0t
theorem count_ev : ∀ (n : Nat) (x : S36), cnt x ≤ n → n ≤ 1000000 → OkNode x → Ev (fun k => vinculumref09_Count.f k x.f0 x.f1 x.f2 x.f3) (cnt x : Int) := by
  intro n
  induction n with
  | zero => intro x h; have := cnt_pos x; omega
  | succ n ih =>
    intro x hn hM hx
    obtain ⟨h1, h2, h3⟩ := ok_open hx
    unfold M at h2
    rw [cnt_eq] at hn
    have loop : ∀ (m i : Nat) (a : Nat), x.f3.length - i = m → cntL (x.f3.drop i) ≤ n → a + cntL (x.f3.drop i) ≤ 1000000 → Ev (fun k => vinculumref09_Count.l0 k a i x.f0 x.f1 x.f2 x.f3) ((a + cntL (x.f3.drop i) : Nat) : Int) := by
      intro m
      induction m with
      | zero =>
        intro i a hi _ _
        refine Ev.step (fun k => by rw [vinculumref09_Count.l0]) ?_
        refine ev_if (fun h => by omega) fun _ => ev_now ?_
        rw [List.drop_eq_nil_of_le (by omega), cntL]; rfl
      | succ m ihm =>
        intro i a hi hc ha
        have hil : i < x.f3.length := by omega
        rw [cntL_drop hil] at hc ha ⊢
        refine Ev.step (fun k => by rw [vinculumref09_Count.l0]) ?_
        refine ev_if (fun _ => ?_) fun h => by omega
        refine ev_if (fun _ => ?_) fun h => by omega
        rw [rdT_at _ _ hil]
        refine ev_bind (ih x.f3[i] (by omega) (by omega) (h3 _ (List.getElem_mem hil))) ?_
        rw [wr (n := (i : Int) + 1) (by omega), wr (n := (a : Int) + (cnt x.f3[i] : Int)) (by omega)]
        have := ihm (i + 1) (a + cnt x.f3[i]) (by omega) (by omega) (by omega)
        rw [← Nat.add_assoc]
        exact_mod_cast this
    refine Ev.step (fun k => by rw [vinculumref09_Count.f]) ?_
    have := loop x.f3.length 0 1 rfl (by simp; omega) (by simp; omega)
    rw [cnt_eq]
    simpa using this
theorem depth_ev : ∀ (n : Nat) (x : S36), cnt x ≤ n → n ≤ 1000000 → OkNode x → Ev (fun k => vinculumref09_Depth.f k x.f0 x.f1 x.f2 x.f3) (dep x : Int) ∧ dep x ≤ cnt x := by
  intro n
  induction n with
  | zero => intro x h; have := cnt_pos x; omega
  | succ n ih =>
    intro x hn hM hx
    obtain ⟨h1, h2, h3⟩ := ok_open hx
    unfold M at h2
    rw [cnt_eq] at hn
    have loop : ∀ (m i : Nat) (a : Nat), x.f3.length - i = m → cntL (x.f3.drop i) ≤ n → a ≤ 1000000 → Ev (fun k => vinculumref09_Depth.l0 k a i x.f0 x.f1 x.f2 x.f3) ((max a (depL (x.f3.drop i)) + 1 : Nat) : Int) ∧ depL (x.f3.drop i) ≤ cntL (x.f3.drop i) := by
      intro m
      induction m with
      | zero =>
        intro i a hi _ ha
        rw [List.drop_eq_nil_of_le (by omega)]
        refine ⟨Ev.step (fun k => by rw [vinculumref09_Depth.l0]) ?_, by simp [depL]⟩
        refine ev_if (fun h => by omega) fun _ => ev_now ?_
        rw [wr (n := (a : Int) + 1) (by omega), depL]
        simp
      | succ m ihm =>
        intro i a hi hc ha
        have hil : i < x.f3.length := by omega
        have hd := List.drop_eq_getElem_cons hil
        rw [cntL_drop hil] at hc
        obtain ⟨e1, e2⟩ := ih x.f3[i] (by omega) (by omega) (h3 _ (List.getElem_mem hil))
        obtain ⟨f1, f2⟩ := ihm (i + 1) (max a (dep x.f3[i])) (by omega) (by omega) (by omega)
        refine ⟨Ev.step (fun k => by rw [vinculumref09_Depth.l0]) ?_, ?_⟩
        · refine ev_if (fun _ => ?_) fun h => by omega
          refine ev_if (fun _ => ?_) fun h => by omega
          rw [rdT_at _ _ hil]
          refine ev_bind e1 ?_
          rw [wr (n := (i : Int) + 1) (by omega), hd, depL, ← Nat.max_assoc]
          have hm : mx (a : Int) (dep x.f3[i] : Int) = ((max a (dep x.f3[i]) : Nat) : Int) := by unfold mx; omega
          rw [hm]
          exact_mod_cast f1
        · rw [cntL_drop hil, hd, depL]; omega
    obtain ⟨l1, l2⟩ := loop x.f3.length 0 0 rfl (by simp; omega) (by omega)
    refine ⟨Ev.step (fun k => by rw [vinculumref09_Depth.f]) ?_, ?_⟩
    · rw [dep_eq, Nat.add_comm]
      simpa using l1
    · rw [dep_eq, cnt_eq]
      simp only [List.drop_zero] at l2
      omega
mutual
def lft : S36 → Int → Int
  | ⟨_, _, _, l⟩, m => lftL l (m - 1)
def lftL : List S36 → Int → Int
  | [], m => m
  | y :: l, m => if m ≥ 0 then lftL l (lft y m) else m
end
theorem lft_eq (x : S36) (m : Int) : lft x m = lftL x.f3 (m - 1) := by cases x; simp [lft]
theorem lft_spec : ∀ (n : Nat) (x : S36), cnt x ≤ n → ∀ m : Int, 0 ≤ m → ((cnt x : Int) ≤ m → lft x m = m - cnt x) ∧ (¬ (cnt x : Int) ≤ m → lft x m < 0) ∧ -1 ≤ lft x m ∧ lft x m ≤ m := by
  intro n
  induction n with
  | zero => intro x h; have := cnt_pos x; omega
  | succ n ih =>
    intro x hn m hm
    rw [cnt_eq] at hn ⊢
    have loop : ∀ (l : List S36) (q : Int), cntL l ≤ n → -1 ≤ q → (((cntL l : Int) ≤ q ∧ 0 ≤ q) → lftL l q = q - cntL l) ∧ (¬ ((cntL l : Int) ≤ q ∧ 0 ≤ q) → lftL l q < 0) ∧ -1 ≤ lftL l q ∧ lftL l q ≤ q := by
      intro l
      induction l with
      | nil => intro q _ hq; simp only [lftL, cntL]; refine ⟨fun h => by simp, fun h => by simp at h; omega, hq, by omega⟩
      | cons y l ihl =>
        intro q hc hq
        rw [cntL] at hc ⊢
        rw [lftL]
        by_cases h0 : q ≥ 0
        · rw [if_pos h0]
          obtain ⟨a1, a2, a3, a4⟩ := ih y (by omega) q h0
          obtain ⟨b1, b2, b3, b4⟩ := ihl (lft y q) (by omega) a3
          refine ⟨fun h => ?_, fun h => ?_, b3, by omega⟩
          · have e := a1 (by omega)
            rw [b1 ⟨by omega, by omega⟩, e]; push_cast; omega
          · by_cases hy : (cnt y : Int) ≤ q
            · have e := a1 hy
              refine b2 fun h2 => h ⟨?_, h0⟩
              push_cast
              omega
            · have := a2 hy; omega
        · rw [if_neg h0]
          refine ⟨fun h => by omega, fun h => by omega, hq, by omega⟩
    rw [lft_eq]
    obtain ⟨a1, a2, a3, a4⟩ := loop x.f3 (m - 1) (by omega) (by omega)
    refine ⟨fun h => ?_, fun h => ?_, a3, by omega⟩
    · rw [a1 ⟨by omega, by omega⟩]; push_cast; omega
    · exact a2 fun h2 => h (by push_cast; omega)
theorem left_ev : ∀ (n : Nat) (x : S36), cnt x ≤ n → OkNode x → ∀ m : Int, 0 ≤ m → m ≤ 1000000 → Ev (fun k => vinculumref09_left.f k x.f0 x.f1 x.f2 x.f3 m) (lft x m) := by
  intro n
  induction n with
  | zero => intro x h; have := cnt_pos x; omega
  | succ n ih =>
    intro x hn hx m hm0 hm
    obtain ⟨h1, h2, h3⟩ := ok_open hx
    unfold M at h2
    rw [cnt_eq] at hn
    have loop : ∀ (q i : Nat) (a : Int), x.f3.length - i = q → cntL (x.f3.drop i) ≤ n → -1 ≤ a → a ≤ 1000000 → Ev (fun k => vinculumref09_left.l0 k a i x.f0 x.f1 x.f2 x.f3) (lftL (x.f3.drop i) a) := by
      intro q
      induction q with
      | zero =>
        intro i a hi _ _ _
        refine Ev.step (fun k => by rw [vinculumref09_left.l0]) ?_
        refine ev_if (fun h => by omega) fun _ => ev_now ?_
        rw [List.drop_eq_nil_of_le (by omega), lftL]
      | succ q ihq =>
        intro i a hi hc ha ha2
        have hil : i < x.f3.length := by omega
        rw [cntL_drop hil] at hc
        refine Ev.step (fun k => by rw [vinculumref09_left.l0]) ?_
        refine ev_if (fun _ => ?_) fun h => by omega
        rw [List.drop_eq_getElem_cons hil, lftL]
        refine ev_if (fun h => ?_) fun h => ev_now ?_
        · refine ev_if (fun _ => ?_) fun h => by omega
          rw [if_pos h, rdT_at _ _ hil]
          refine ev_bind (ih x.f3[i] (by omega) (h3 _ (List.getElem_mem hil)) a h ha2) ?_
          rw [wr (n := (i : Int) + 1) (by omega)]
          obtain ⟨_, _, s3, s4⟩ := lft_spec n x.f3[i] (by omega) a h
          have := ihq (i + 1) (lft x.f3[i] a) (by omega) (by omega) s3 (by omega)
          exact_mod_cast this
        · rw [if_neg h]
    refine Ev.step (fun k => by rw [vinculumref09_left.f]) ?_
    rw [lft_eq, wr (n := m - 1) (by omega)]
    have := loop x.f3.length 0 (m - 1) rfl (by simp; omega) (by omega) (by omega)
    simpa using this
theorem few_ev (x : S36) (hx : OkNode x) (m : Int) (h0 : 0 ≤ m) (h1 : m ≤ 1000000) : Ev (fun k => vinculumref09_Few.f k x.f0 x.f1 x.f2 x.f3 m) (decide ((cnt x : Int) ≤ m)) := by
  unfold vinculumref09_Few.f
  refine ev_bind (left_ev (cnt x) x (Nat.le_refl _) hx m h0 h1) (ev_now ?_)
  obtain ⟨a1, a2, _, _⟩ := lft_spec (cnt x) x (Nat.le_refl _) m h0
  rw [decide_eq_decide]
  by_cases h : (cnt x : Int) ≤ m
  · rw [a1 h]; omega
  · have := a2 h; omega
def validB (x : S36) : Bool := x.f0 == 1 && formB x && decide (cnt x ≤ 1000) && decide (dep x ≤ 24)
theorem rValid_ev (x : S36) (hx : OkNode x) (hc : cnt x ≤ 1000000) : Ev (fun k => vinculumref09_Valid.f k x.f0 x.f1 x.f2 x.f3) (validB x) := by
  unfold vinculumref09_Valid.f validB
  refine ev_if (fun h => ?_) fun h => ev_now ?_
  · rw [h]
    refine ev_bind (by have := form_ev (cnt x) x (Nat.le_refl _) hx; rw [h] at this; exact this) ?_
    refine ev_if (fun h2 => ?_) fun h2 => ev_now ?_
    · rw [h2]
      refine ev_bind (by have := count_ev (cnt x) x (Nat.le_refl _) hc hx; rw [h] at this; exact this) ?_
      refine ev_if (fun h3 => ?_) fun h3 => ev_now ?_
      · rw [decide_eq_true (show cnt x ≤ 1000 by omega)]
        refine ev_bind (by have := (depth_ev (cnt x) x (Nat.le_refl _) hc hx).1; rw [h] at this; exact this) (ev_now ?_)
        have e : decide ((dep x : Int) ≤ 24) = decide (dep x ≤ 24) := by rw [decide_eq_decide]; omega
        rw [e]; simp
      · rw [decide_eq_false (show ¬ cnt x ≤ 1000 by omega)]; simp
    · rw [Bool.not_eq_true] at h2; rw [h2]; simp
  · rw [beq_eq_false_iff_ne.2 h]; rfl
theorem chk_ev : ∀ (d : Nat) (x : S36) (l : Int), OkNode x → 0 ≤ l → l ≤ 1000000 → ∃ r, Ev (fun k => chk k d l x) r ∧ (r.1 = true → formB x = true ∧ (cnt x : Int) ≤ l ∧ dep x ≤ d ∧ r.2 = l - cnt x) ∧ (formB x = true ∧ (cnt x : Int) ≤ l ∧ dep x ≤ d → r.1 = true) := by
  intro d
  induction d with
  | zero =>
    intro x l hx h0 h1
    refine ⟨(false, l - 1), Ev.now _, fun h => by simp at h, fun h => ?_⟩
    have := dep_eq x
    omega
  | succ d ih =>
    intro x l hx h0 h1
    obtain ⟨o1, o2, o3⟩ := ok_open hx
    have loop : ∀ (ys : List S36) (q : Int), (∀ y ∈ ys, OkNode y) → 0 ≤ q → q ≤ 1000000 → ∃ r, Ev (fun k => chkL (chk k d) (x.f0 == 1) ys q) r ∧ (r.1 = true → formL (x.f0 == 1) ys = true ∧ (cntL ys : Int) ≤ q ∧ depL ys ≤ d ∧ r.2 = q - cntL ys) ∧ (formL (x.f0 == 1) ys = true ∧ (cntL ys : Int) ≤ q ∧ depL ys ≤ d → r.1 = true) := by
      intro ys
      induction ys with
      | nil =>
        intro q _ hq hq1
        refine ⟨(true, q), ?_, fun _ => ⟨rfl, by simp [cntL]; omega, by simp [depL], by simp [cntL]⟩, fun _ => rfl⟩
        simp only [chkL]; exact Ev.now _
      | cons y ys ihy =>
        intro q hy hq hq1
        simp only [chkL, formL, cntL, depL]
        by_cases hr : (y.f0 == 1) == (x.f0 == 1)
        · refine ⟨(false, q), ?_, fun h => by simp at h, fun h => ?_⟩
          · simp only [hr, if_true]; exact Ev.now _
          · rw [hr] at h; simp at h
        · rw [Bool.not_eq_true] at hr
          simp only [hr, Bool.false_eq_true, if_false, Bool.not_false, Bool.true_and]
          obtain ⟨⟨b, q2⟩, e1, e2, e3⟩ := ih y q (hy y (by simp)) hq hq1
          cases b with
          | false =>
            refine ⟨(false, q2), ev_bind e1 (Ev.now _), fun h => by simp at h, fun h => ?_⟩
            obtain ⟨g1, g2, g3⟩ := h
            rw [Bool.and_eq_true] at g1
            have := e3 ⟨g1.1, by push_cast at g2; omega, by omega⟩
            simp at this
          | true =>
            obtain ⟨f1, f2, f3, f4⟩ := e2 rfl
            simp only at f4
            have := cnt_pos y
            obtain ⟨r, g1, g2, g3⟩ := ihy q2 (fun z hz => hy z (by simp [hz])) (by omega) (by omega)
            refine ⟨r, ev_bind e1 g1, fun h => ?_, fun h => ?_⟩
            · obtain ⟨i1, i2, i3, i4⟩ := g2 h
              refine ⟨by rw [f1, i1]; rfl, by push_cast; omega, by omega, by push_cast; omega⟩
            · obtain ⟨i1, i2, i3⟩ := h
              rw [Bool.and_eq_true] at i1
              exact g3 ⟨i1.2, by push_cast at i2; omega, by omega⟩
    have hcp := cnt_pos x
    simp only [chk]
    by_cases hl : l - 1 < 0
    · refine ⟨(false, l - 1), by simp only [hl, if_true]; exact Ev.now _, fun h => by simp at h, fun h => by omega⟩
    · simp only [hl, if_false]
      rw [formB_eq, cnt_eq, dep_eq]
      have hs := shape_ev x.f0 x.f1 x.f2 x.f3.length o1
      cases hsh : shp x.f0 x.f1 x.f2 x.f3.length with
      | false =>
        rw [hsh] at hs
        refine ⟨(false, l - 1), ev_bind hs (Ev.now _), fun h => by simp at h, fun h => by simp at h⟩
      | true =>
        rw [hsh] at hs
        obtain ⟨r, g1, g2, g3⟩ := loop x.f3 (l - 1) o3 (by omega) (by omega)
        refine ⟨r, ev_bind hs g1, fun h => ?_, fun h => ?_⟩
        · obtain ⟨i1, i2, i3, i4⟩ := g2 h
          refine ⟨by rw [i1]; rfl, by push_cast; omega, by omega, by push_cast; omega⟩
        · obtain ⟨i1, i2, i3⟩ := h
          rw [Bool.true_and] at i1
          exact g3 ⟨i1, by push_cast at i2; omega, by omega⟩
theorem node_eta (x : S36) : (⟨x.f0, x.f1, x.f2, x.f3⟩ : S36) = x := by cases x; rfl
theorem nValid_ev (x : S36) (hx : OkNode x) : Ev (fun k => node_Valid.f k x.f0 x.f1 x.f2 x.f3) (validB x) := by
  unfold node_Valid.f validB
  simp only [node_eta]
  refine ev_if (fun h => ?_) fun h => ev_now ?_
  · obtain ⟨r, e1, e2, e3⟩ := chk_ev 24 x 1000 hx (by omega) (by omega)
    refine ev_bind (f := fun _ r => some r.1) e1 (ev_now ?_)
    rw [h]
    rw [Bool.eq_iff_iff]
    simp only [beq_self_eq_true, Bool.true_and, Bool.and_eq_true, decide_eq_true_eq]
    constructor
    · intro hr; obtain ⟨i1, i2, i3, _⟩ := e2 hr; exact ⟨⟨i1, by omega⟩, i3⟩
    · rintro ⟨⟨i1, i2⟩, i3⟩; exact e3 ⟨i1, by omega, i3⟩
  · rw [beq_eq_false_iff_ne.2 h]; rfl
end Go.Proofs.YtagkhoeidjlahaaDoor.G.Pure
namespace Go.Proofs.YtagkhoeidjlahaaDoor.G
open Go.RowKit Go.Proofs.YtagkhoeidjlahaaDoorW.PrintWords Go.Proofs.YtagkhoeidjlahaaDoorW.PrintLast Go.Proofs.YtagkhoeidjlahaaDoorW.PrintMore
attribute [local go_sem] max2_int min2_int max_two min_two max_three min_three max_four min_four
set_option linter.unusedVariables false
set_option linter.unusedSimpArgs false
def vinculumref09_ToRow.f (l0 : List (S36)) : Option (Int × ByteArray × Int × (List (S36))) := some (1, (⟨#[]⟩ : ByteArray), 0, l0)
set_option maxHeartbeats 8000000 in
set_option maxRecDepth 100000 in
theorem vinculumref09_ToRow.calls (P0_ : Nat → Prop) (A0 : Option Addr) (c0 : Nat) (l0 : List (S36)) (r1 : Int) (r2 : ByteArray) (r3 : Int) (r4 : List (S36)) (w : World) (hs0 : Kd.V k36 36 w w.heap.size (fun k_ => P0_ k_) (.slice A0 l0.length c0) l0) (h : vinculumref09_ToRow.f l0 = some (r1, r2, r3, r4)) :
    Calls Tryd.prog 62 #[.slice A0 l0.length c0] w fun e w' => ∃ v3_ : Value, e = .returned (.agg #[.int .i64 r1, .string r2, .int .i64 r3, v3_]) ∧ Kd.V k36 36 w' w.heap.size (fun k_ => (P0_ k_ ∨ w.heap.size ≤ k_)) v3_ r4 ∧ Below w.heap.size w w' := by
  have hu36 := Tryd.underlying36
  have HO0 := Aside0.mk (show Kd.V k36 36 w w.heap.size (fun k_ => (P0_ k_ ∨ w.heap.size ≤ k_)) (.slice A0 l0.length c0) l0 from Kd.V_mono hs0 (fun k_ hk => .inl hk))
  have HB := Aside0.mk (Below.refl w.heap.size w)
  have H : (some (1, (⟨#[]⟩ : ByteArray), 0, l0)) = some (r1, r2, r3, r4) := h
  clear h
  simp only [Option.some.injEq, Prod.mk.injEq] at H
  obtain ⟨rfl, rfl, rfl, rfl⟩ := H
  go_enter Tryd.func62, Tryd.ntmps62
  go_wp2_with (first | ((with_reducible refine gate_dst (N := 2) rfl ?_); refine box_event ?hg (N := 2) ?hd (cs := #[.int .i64 0, .string (⟨#[]⟩ : ByteArray), .int .i64 0, .slice none 0 0]) (t := 36) ?hr ?_; (case hd => rfl); (case hg => rfl); (case hr => first | (go_simp; done) | (go_simp; rfl)); intro gb208 hg w2 hbox hb; have n0_ := Aside0.mk (Kd.V_below (Kd.V_elderB (by (with_reducible repeat (first | apply Kd.V_alloc | apply Kd.V_drewN | apply Kd.V_drew)); exact HO0.out) gb208 (Nat.le_of_eq hg.symm)) hb); have n1_ := Aside0.mk (below_step (by repeat (first | (with_reducible first | exact HB.out | apply below_alloc | apply pw_below_drewN | apply below_drew1) | exact HB.out)) hb); have n2_ := Aside0.mk (hbox); have n3_ := Aside0.mk ((by rw [hg]; exact (below_size (by repeat (first | (with_reducible first | exact HB.out | apply below_alloc | apply pw_below_drewN | apply below_drew1) | exact HB.out))) : w.heap.size ≤ gb208)); have n4_ := Aside0.mk ((by rw [hg]; exact (below_size (by repeat (first | (with_reducible first | exact HB.out | apply below_alloc | apply pw_below_drewN | apply below_drew1) | exact HB.out))) : w.heap.size ≤ gb208)); clear HO0; clear HB; have HO0 := n0_; have HB := n1_; have BK208 := n2_; have GW208 := n3_; have GE208 := n4_; clear n0_ n1_ n2_ n3_ n4_; clear hb hbox hg; have hcz3_0 : w2.cell? ⟨gb208, 0, none⟩ = some (.int .i64 0) := (blk_cell BK208.out 0).trans rfl; have hcz3_1 : w2.cell? ⟨gb208, 1, none⟩ = some (.string (⟨#[]⟩ : ByteArray)) := (blk_cell BK208.out 1).trans rfl; have hcz3_2 : w2.cell? ⟨gb208, 2, none⟩ = some (.int .i64 0) := (blk_cell BK208.out 2).trans rfl; have hcz3_3 : w2.cell? ⟨gb208, 3, none⟩ = some (.slice none 0 0) := (blk_cell BK208.out 3).trans rfl; have hfz3_0 := blk_frozen BK208.out 0; have hfz3_1 := blk_frozen BK208.out 1; have hfz3_2 := blk_frozen BK208.out 2; have hfz3_3 := blk_frozen BK208.out 3))
  refine bodyPost_ret (results_cell_row rfl _ _ gb208 36 #[.int .i64 1, .string (⟨#[]⟩ : ByteArray), .int .i64 0, .slice A0 l0.length c0] (0, 0) _ rfl (by (with_reducible repeat (first | refine blk_drewN ?_ _ | refine blk_drew ?_ | refine blk_alloc ?_ _)); refine blk_put (cs := #[.int .i64 1, .string (⟨#[]⟩ : ByteArray), .int .i64 0, .slice none 0 0]) ?_ 3 _ rfl; (with_reducible repeat (first | refine blk_drewN ?_ _ | refine blk_drew ?_ | refine blk_alloc ?_ _)); refine blk_put (cs := #[.int .i64 1, .string (⟨#[]⟩ : ByteArray), .int .i64 0, .slice none 0 0]) ?_ 2 _ rfl; (with_reducible repeat (first | refine blk_drewN ?_ _ | refine blk_drew ?_ | refine blk_alloc ?_ _)); refine blk_put (cs := #[.int .i64 1, .string (⟨#[]⟩ : ByteArray), .int .i64 0, .slice none 0 0]) ?_ 1 _ rfl; (with_reducible repeat (first | refine blk_drewN ?_ _ | refine blk_drew ?_ | refine blk_alloc ?_ _)); refine blk_put (cs := #[.int .i64 0, .string (⟨#[]⟩ : ByteArray), .int .i64 0, .slice none 0 0]) ?_ 0 _ rfl; (with_reducible repeat (first | refine blk_drewN ?_ _ | refine blk_drew ?_ | refine blk_alloc ?_ _)); exact BK208.out) Tryd.underlying36 rfl (by kernel_rfl)) rfl ?_
  exact ⟨_, by first | rfl | (simp [errW_none, errW_some] <;> rfl) | (simp [*, errW_none, errW_some] <;> rfl), by (with_reducible repeat (first | apply Kd.V_alloc | apply Kd.V_drewN | apply Kd.V_drew)); exact Kd.V_mono (Kd.V_far (p := ⟨gb208, 3, none⟩) (Kd.V_far (p := ⟨gb208, 2, none⟩) (Kd.V_far (p := ⟨gb208, 1, none⟩) (Kd.V_far (p := ⟨gb208, 0, none⟩) (Kd.V_mono HO0.out (fun k_ hk => (⟨hk, hk.2⟩ : _ ∧ k_ ≠ gb208))) (fun _ hk => hk.2) (.int .i64 1)) (fun _ hk => hk.2) (.string (⟨#[]⟩ : ByteArray))) (fun _ hk => hk.2) (.int .i64 0)) (fun _ hk => hk.2) (.slice A0 l0.length c0)) (fun _ hk => hk.1.1), by repeat (first | (with_reducible first | exact HB.out | apply below_alloc | apply pw_below_drewN | apply below_drew1 | refine below_set ?_ GE208.out) | exact HB.out)⟩
end Go.Proofs.YtagkhoeidjlahaaDoor.G
namespace Go.Proofs.YtagkhoeidjlahaaDoor.G
open Go.RowKit Go.Proofs.YtagkhoeidjlahaaDoorW.PrintWords Go.Proofs.YtagkhoeidjlahaaDoorW.PrintLast Go.Proofs.YtagkhoeidjlahaaDoorW.PrintMore
attribute [local go_sem] max2_int min2_int max_two min_two max_three min_three max_four min_four
set_option linter.unusedVariables false
set_option linter.unusedSimpArgs false
def vinculumref09_ValidItems.f (k : Nat) (l0 : List (S36)) : Option (Bool) := (vinculumref09_ToRow.f l0).bind fun bt263 => ((vinculumref09_Valid.f k bt263.1 bt263.2.1 bt263.2.2.1 bt263.2.2.2).bind fun t269 => (some t269))
set_option maxHeartbeats 8000000 in
set_option maxRecDepth 100000 in
theorem vinculumref09_ValidItems.calls (k : Nat) (A0 : Option Addr) (c0 : Nat) (l0 : List (S36)) (r : Bool) (w : World) (hr0 : Kd.C k36 w A0 l0.length l0) (hc0 : l0.length ≤ c0) (h : vinculumref09_ValidItems.f k l0 = some r) :
    Calls Tryd.prog 23 #[.slice A0 l0.length c0] w fun e w' => e = .returned (.bool r) ∧ Below w.heap.size w w' := by
  have HR0 := Aside0.mk hr0
  have HC0 := Aside0.mk hc0
  clear hr0 hc0
  have HB := Aside0.mk (Below.refl w.heap.size w)
  have H : ((vinculumref09_ToRow.f l0).bind fun bt263 => ((vinculumref09_Valid.f k bt263.1 bt263.2.1 bt263.2.2.1 bt263.2.2.2).bind fun t269 => (some t269))) = some r := h
  clear h
  replace H := Option.bind_eq_some_iff.mp H
  obtain ⟨⟨t263, t264, t265, t266⟩, A20, H⟩ := H
  replace H : ((vinculumref09_Valid.f k t263 t264 t265 t266).bind fun t269 => (some t269)) = some r := H
  have A2 := Aside0.mk A20
  clear A20
  replace H := Option.bind_eq_some_iff.mp H
  obtain ⟨t269, A30, H⟩ := H
  replace H : (some t269) = some r := H
  have A3 := Aside0.mk A30
  clear A30
  obtain rfl := Option.some.inj H
  go_enter Tryd.func23, Tryd.ntmps23
  go_wp2_with (first | ((with_reducible refine gate_callee (f := 62) rfl ?_); refine goesL_ (some 4) rfl rfl Tryd.func62 (by kernel_rfl) rfl #[.slice A0 l0.length c0] rfl (by (try simp only [List.map_toArray, List.map_cons, List.map_nil]); first | done | rfl | (simp only [List.length_drop, List.length_take]; rfl)) ?_; (with_reducible refine (vinculumref09_ToRow.calls (fun k_ => k_ < w.heap.size) _ _ l0 t263 t264 t265 t266 _ ?side1 A2.out).mono ?_); (case side1 => exact Kd.V_mk HC0.out (Kd.F_below (Kd.C_F k36_heap HR0.out) (by repeat (first | (with_reducible first | exact HB.out | apply below_alloc | apply pw_below_drewN | apply below_drew1) | exact HB.out)))); rintro e w4 ⟨v267, rfl, ho0, hb⟩; refine ⟨_, rfl, ?_⟩; have n0_ := Aside0.mk (Kd.V_lower (Kd.V_mono (ok' := fun k_ => True) ho0 (fun k_ hk_ => trivial)) (below_size (by repeat (first | (with_reducible first | exact HB.out | apply below_alloc | apply pw_below_drewN | apply below_drew1) | exact HB.out)))); have n1_ := Aside0.mk (below_step (by repeat (first | (with_reducible first | exact HB.out | apply below_alloc | apply pw_below_drewN | apply below_drew1) | exact HB.out)) hb); clear HB; have HO268 := n0_; have HB := n1_; clear n0_ n1_; (try clear hb); (try clear hb2); (try clear hk); (try clear hi); (try clear ho0); obtain ⟨Ao5, co5, eo5⟩ := Kd.V_slice HO268.out; subst eo5) | ((with_reducible refine gate_callee (f := 68) rfl ?_); refine goesL_ (some 5) rfl rfl Tryd.func68 (by kernel_rfl) rfl #[.agg #[.int .i64 t263, .string t264, .int .i64 t265, .slice Ao5 t266.length co5]] rfl (by (try simp only [List.map_toArray, List.map_cons, List.map_nil]); first | done | rfl | (simp only [List.length_drop, List.length_take]; rfl)) ?_; (with_reducible refine (vinculumref09_Valid.calls k t263 t264 t265 _ _ t266 t269 _ ?side1 ?side2 A3.out).mono ?_); (case side1 => repeat (first | exact (Kd.V_reads' HO268.out).2.2 | (with_reducible refine Kd.C_alloc ?_ _) | (with_reducible refine Kd.C_drewN ?_ _) | (with_reducible refine Kd.C_drew ?_))); (case side2 => exact (Kd.V_reads' HO268.out).2.1); rintro e w6 ⟨rfl, hb⟩; refine ⟨_, rfl, ?_⟩; have n0_ := Aside0.mk (Kd.V_below (by (with_reducible repeat (first | apply Kd.V_alloc | apply Kd.V_drewN | apply Kd.V_drew)); exact HO268.out) hb); have n1_ := Aside0.mk (below_step (by repeat (first | (with_reducible first | exact HB.out | apply below_alloc | apply pw_below_drewN | apply below_drew1) | exact HB.out)) hb); clear HO268; clear HB; have HO268 := n0_; have HB := n1_; clear n0_ n1_; (try clear hb); (try clear hb2); (try clear hk); (try clear hi)))
  go_ret
  exact ⟨by first | rfl | (simp [errW_none, errW_some] <;> rfl) | (simp [*, errW_none, errW_some] <;> rfl), by repeat (first | (with_reducible first | exact HB.out | apply below_alloc | apply pw_below_drewN | apply below_drew1) | exact HB.out)⟩
end Go.Proofs.YtagkhoeidjlahaaDoor.G
namespace Go.Proofs.YtagkhoeidjlahaaDoor.G
open Go.RowKit Go.Proofs.YtagkhoeidjlahaaDoorW.PrintWords Go.Proofs.YtagkhoeidjlahaaDoorW.PrintLast Go.Proofs.YtagkhoeidjlahaaDoorW.PrintMore
attribute [local go_sem] max2_int min2_int max_two min_two max_three min_three max_four min_four
set_option linter.unusedVariables false
set_option linter.unusedSimpArgs false
def vinculumref08_proper.l0 : Nat → Int → ByteArray → Int → Bool → Bool → Option (Bool)
  | 0, _, _, _, _, _ => none
  | k + 1, x3, x271000, x271001, x271002, x271003 => if x3 < (x271000.size : Int) then (if 0 ≤ x3 then (if (bt x271000 x3) < 33 then (some false) else (if (bt x271000 x3) > 126 then (some false) else (vinculumref08_proper.l0 k (wrap64 (x3 + 1)) x271000 x271001 x271002 x271003))) else (none)) else (if (x271000.size : Int) ≥ 1 then (if (x271000.size : Int) ≤ 16 then (if x271001 ≥ 0 then (some (decide (x271001 ≤ 7))) else (some false)) else (some false)) else (some false))
def vinculumref08_proper.f (k : Nat) (a0_0 : ByteArray) (a0_1 : Int) (a0_2 : Bool) (a0_3 : Bool) : Option (Bool) := vinculumref08_proper.l0 k 0 a0_0 a0_1 a0_2 a0_3
set_option maxHeartbeats 8000000 in
set_option maxRecDepth 100000 in
theorem vinculumref08_proper.calls (k : Nat) (a0_0 : ByteArray) (a0_1 : Int) (a0_2 : Bool) (a0_3 : Bool) (r : Bool) (w : World) (h : vinculumref08_proper.f k a0_0 a0_1 a0_2 a0_3 = some r) :
    Calls Tryd.prog 91 #[.agg #[.string a0_0, .int .i64 a0_1, .bool a0_2, .bool a0_3]] w fun e w' => e = .returned (.bool r) ∧ Below w.heap.size w w' := by
  have hu68 := Tryd.underlying68
  have HB := Aside0.mk (Below.refl w.heap.size w)
  have H : (vinculumref08_proper.l0 k 0 a0_0 a0_1 a0_2 a0_3) = some r := h
  clear h
  have H' := Aside0.mk H
  clear H
  go_enter Tryd.func91, Tryd.ntmps91
  go_wp2_with (first | ((with_reducible refine gate_dst (N := 1) rfl ?_); (try (refine gate_guard (by rfl) ?_; dsimp only)); refine box_event ?hg (N := 1) ?hd (cs := #[.string a0_0, .int .i64 a0_1, .bool a0_2, .bool a0_3]) (t := 68) ?hr ?_; (case hd => rfl); (case hg => rfl); (case hr => first | (go_simp; done) | (go_simp; rfl)); intro gb270 hg w2 hbox hb; have n0_ := Aside0.mk (below_step (by repeat (first | (with_reducible first | exact HB.out | apply below_alloc | apply pw_below_drewN | apply below_drew1) | exact HB.out)) hb); have n1_ := Aside0.mk (hbox); have n2_ := Aside0.mk ((by rw [hg]; exact (below_size (by repeat (first | (with_reducible first | exact HB.out | apply below_alloc | apply pw_below_drewN | apply below_drew1) | exact HB.out))) : w.heap.size ≤ gb270)); have n3_ := Aside0.mk ((by rw [hg]; exact (below_size (by repeat (first | (with_reducible first | exact HB.out | apply below_alloc | apply pw_below_drewN | apply below_drew1) | exact HB.out))) : w.heap.size ≤ gb270)); clear HB; have HB := n0_; have BK270 := n1_; have GW270 := n2_; have GE270 := n3_; clear n0_ n1_ n2_ n3_; clear hb hbox hg))
  go_loopg [3] k (fun kq v3 w' => ∃ (x3_1 : Int), v3 = .int .i64 x3_1 ∧ Aside0 (vinculumref08_proper.l0 kq x3_1 a0_0 a0_1 a0_2 a0_3 = some r) ∧ Aside0 (kq ≤ k) ∧ Aside0 (w'.heap[gb270]? = some (.cells #[.string a0_0, .int .i64 a0_1, .bool a0_2, .bool a0_3] 68 (0, 0))) ∧ Aside0 (Below w.heap.size w w'))
  case atStart => exact ⟨(0), (by first | rfl | (simp; done) | (simp [*]; done)), H', ⟨Nat.le_refl _⟩, ⟨by (with_reducible repeat (first | refine blk_drewN ?_ _ | refine blk_drew ?_ | refine blk_alloc ?_ _)); exact BK270.out⟩, ⟨by repeat (first | (with_reducible first | exact HB.out | apply below_alloc | apply pw_below_drewN | apply below_drew1 | refine below_set ?_ GE270.out) | exact HB.out)⟩⟩
  case round =>
    clear H'
    try clear p2
    obtain ⟨x3_1, rfl, HA, HK1, BK270, HB⟩ := hrel
    cases gk with
    | zero => exact absurd HA.out (by simp [vinculumref08_proper.l0])
    | succ k1 =>
      have H := HA.out
      clear HA
      simp only [vinculumref08_proper.l0] at H
      by_cases c3 : x3_1 < (a0_0.size : Int)
      · rw [if_pos c3] at H
        have c3b0 : decide (x3_1 < (a0_0.size : Int)) = true := decide_eq_true c3
        clear c3
        by_cases c4 : 0 ≤ x3_1
        · rw [if_pos c4] at H
          have c4b0 : decide (0 ≤ x3_1) = true := decide_eq_true c4
          clear c4
          by_cases c6 : (bt a0_0 x3_1) < 33
          · rw [if_pos c6] at H
            have c6b0 : decide ((bt a0_0 x3_1) < 33) = true := decide_eq_true c6
            clear c6
            obtain rfl := Option.some.inj H
            have hcz7_0 : wr.cell? ⟨gb270, 0, none⟩ = some (.string a0_0) := (blk_cell BK270.out 0).trans rfl
            have hcz7_1 : wr.cell? ⟨gb270, 1, none⟩ = some (.int .i64 a0_1) := (blk_cell BK270.out 1).trans rfl
            have hcz7_2 : wr.cell? ⟨gb270, 2, none⟩ = some (.bool a0_2) := (blk_cell BK270.out 2).trans rfl
            have hcz7_3 : wr.cell? ⟨gb270, 3, none⟩ = some (.bool a0_3) := (blk_cell BK270.out 3).trans rfl
            have hfz7_0 := blk_frozen BK270.out 0
            have hfz7_1 := blk_frozen BK270.out 1
            have hfz7_2 := blk_frozen BK270.out 2
            have hfz7_3 := blk_frozen BK270.out 3
            have p5 : 0 ≤ (x3_1 : Int) := of_decide_eq_true (by first | (with_reducible assumption) | assumption)
            have q5 : x3_1 < (a0_0.size : Int) := of_decide_eq_true (by first | (with_reducible assumption) | assumption)
            have hx5 := bt_at a0_0 x3_1
            replace p5 := eq_true p5
            replace q5 := eq_true q5
            go_wp2
            go_ret
            exact ⟨by first | rfl | (simp [errW_none, errW_some] <;> rfl) | (simp [*, errW_none, errW_some] <;> rfl), by repeat (first | (with_reducible first | exact HB.out | apply below_alloc | apply pw_below_drewN | apply below_drew1 | refine below_set ?_ GE270.out) | exact HB.out)⟩
          · rw [if_neg c6] at H
            have c6b0 : decide ((bt a0_0 x3_1) < 33) = false := decide_eq_false c6
            clear c6
            by_cases c9 : (bt a0_0 x3_1) > 126
            · rw [if_pos c9] at H
              have c9b0 : decide (126 < (bt a0_0 x3_1)) = true := decide_eq_true c9
              clear c9
              obtain rfl := Option.some.inj H
              have hcz10_0 : wr.cell? ⟨gb270, 0, none⟩ = some (.string a0_0) := (blk_cell BK270.out 0).trans rfl
              have hcz10_1 : wr.cell? ⟨gb270, 1, none⟩ = some (.int .i64 a0_1) := (blk_cell BK270.out 1).trans rfl
              have hcz10_2 : wr.cell? ⟨gb270, 2, none⟩ = some (.bool a0_2) := (blk_cell BK270.out 2).trans rfl
              have hcz10_3 : wr.cell? ⟨gb270, 3, none⟩ = some (.bool a0_3) := (blk_cell BK270.out 3).trans rfl
              have hfz10_0 := blk_frozen BK270.out 0
              have hfz10_1 := blk_frozen BK270.out 1
              have hfz10_2 := blk_frozen BK270.out 2
              have hfz10_3 := blk_frozen BK270.out 3
              have p5 : 0 ≤ (x3_1 : Int) := of_decide_eq_true (by first | (with_reducible assumption) | assumption)
              have q5 : x3_1 < (a0_0.size : Int) := of_decide_eq_true (by first | (with_reducible assumption) | assumption)
              have hx5 := bt_at a0_0 x3_1
              replace p5 := eq_true p5
              replace q5 := eq_true q5
              have p8 : 0 ≤ (x3_1 : Int) := of_decide_eq_true (by first | (with_reducible assumption) | assumption)
              have q8 : x3_1 < (a0_0.size : Int) := of_decide_eq_true (by first | (with_reducible assumption) | assumption)
              have hx8 := bt_at a0_0 x3_1
              replace p8 := eq_true p8
              replace q8 := eq_true q8
              go_wp2
              go_ret
              exact ⟨by first | rfl | (simp [errW_none, errW_some] <;> rfl) | (simp [*, errW_none, errW_some] <;> rfl), by repeat (first | (with_reducible first | exact HB.out | apply below_alloc | apply pw_below_drewN | apply below_drew1 | refine below_set ?_ GE270.out) | exact HB.out)⟩
            · rw [if_neg c9] at H
              have c9b0 : decide (126 < (bt a0_0 x3_1)) = false := decide_eq_false c9
              clear c9
              have H' := Aside0.mk H
              clear H
              have hcz11_0 : wr.cell? ⟨gb270, 0, none⟩ = some (.string a0_0) := (blk_cell BK270.out 0).trans rfl
              have hcz11_1 : wr.cell? ⟨gb270, 1, none⟩ = some (.int .i64 a0_1) := (blk_cell BK270.out 1).trans rfl
              have hcz11_2 : wr.cell? ⟨gb270, 2, none⟩ = some (.bool a0_2) := (blk_cell BK270.out 2).trans rfl
              have hcz11_3 : wr.cell? ⟨gb270, 3, none⟩ = some (.bool a0_3) := (blk_cell BK270.out 3).trans rfl
              have hfz11_0 := blk_frozen BK270.out 0
              have hfz11_1 := blk_frozen BK270.out 1
              have hfz11_2 := blk_frozen BK270.out 2
              have hfz11_3 := blk_frozen BK270.out 3
              have p5 : 0 ≤ (x3_1 : Int) := of_decide_eq_true (by first | (with_reducible assumption) | assumption)
              have q5 : x3_1 < (a0_0.size : Int) := of_decide_eq_true (by first | (with_reducible assumption) | assumption)
              have hx5 := bt_at a0_0 x3_1
              replace p5 := eq_true p5
              replace q5 := eq_true q5
              have p8 : 0 ≤ (x3_1 : Int) := of_decide_eq_true (by first | (with_reducible assumption) | assumption)
              have q8 : x3_1 < (a0_0.size : Int) := of_decide_eq_true (by first | (with_reducible assumption) | assumption)
              have hx8 := bt_at a0_0 x3_1
              replace p8 := eq_true p8
              replace q8 := eq_true q8
              go_wp2
              go_roundg k1
              case measure => have := HK1.out; omega
              case rel => exact ⟨(wrap64 (x3_1 + 1)), (by first | rfl | (simp; done) | (simp [*]; done)), H', ⟨by have := HK1.out; omega⟩, ⟨by (with_reducible repeat (first | refine blk_drewN ?_ _ | refine blk_drew ?_ | refine blk_alloc ?_ _)); exact BK270.out⟩, ⟨by repeat (first | (with_reducible first | exact HB.out | apply below_alloc | apply pw_below_drewN | apply below_drew1 | refine below_set ?_ GE270.out) | exact HB.out)⟩⟩
        · rw [if_neg c4] at H
          exact absurd H (by simp)
      · rw [if_neg c3] at H
        have c3b0 : decide (x3_1 < (a0_0.size : Int)) = false := decide_eq_false c3
        clear c3
        by_cases c12 : (a0_0.size : Int) ≥ 1
        · rw [if_pos c12] at H
          have c12b0 : decide (1 ≤ (a0_0.size : Int)) = true := decide_eq_true c12
          have c12b1 : decide (1 ≤ a0_0.size) = true := decide_eq_true (by omega)
          clear c12
          by_cases c13 : (a0_0.size : Int) ≤ 16
          · rw [if_pos c13] at H
            have c13b0 : decide ((a0_0.size : Int) ≤ 16) = true := decide_eq_true c13
            have c13b1 : decide (a0_0.size ≤ 16) = true := decide_eq_true (by omega)
            clear c13
            by_cases c14 : a0_1 ≥ 0
            · rw [if_pos c14] at H
              have c14b0 : decide (0 ≤ a0_1) = true := decide_eq_true c14
              clear c14
              obtain rfl := Option.some.inj H
              have hcz15_0 : wr.cell? ⟨gb270, 0, none⟩ = some (.string a0_0) := (blk_cell BK270.out 0).trans rfl
              have hcz15_1 : wr.cell? ⟨gb270, 1, none⟩ = some (.int .i64 a0_1) := (blk_cell BK270.out 1).trans rfl
              have hcz15_2 : wr.cell? ⟨gb270, 2, none⟩ = some (.bool a0_2) := (blk_cell BK270.out 2).trans rfl
              have hcz15_3 : wr.cell? ⟨gb270, 3, none⟩ = some (.bool a0_3) := (blk_cell BK270.out 3).trans rfl
              have hfz15_0 := blk_frozen BK270.out 0
              have hfz15_1 := blk_frozen BK270.out 1
              have hfz15_2 := blk_frozen BK270.out 2
              have hfz15_3 := blk_frozen BK270.out 3
              go_wp2
              go_ret
              exact ⟨by first | rfl | (simp [errW_none, errW_some] <;> rfl) | (simp [*, errW_none, errW_some] <;> rfl), by repeat (first | (with_reducible first | exact HB.out | apply below_alloc | apply pw_below_drewN | apply below_drew1 | refine below_set ?_ GE270.out) | exact HB.out)⟩
            · rw [if_neg c14] at H
              have c14b0 : decide (0 ≤ a0_1) = false := decide_eq_false c14
              clear c14
              obtain rfl := Option.some.inj H
              have hcz16_0 : wr.cell? ⟨gb270, 0, none⟩ = some (.string a0_0) := (blk_cell BK270.out 0).trans rfl
              have hcz16_1 : wr.cell? ⟨gb270, 1, none⟩ = some (.int .i64 a0_1) := (blk_cell BK270.out 1).trans rfl
              have hcz16_2 : wr.cell? ⟨gb270, 2, none⟩ = some (.bool a0_2) := (blk_cell BK270.out 2).trans rfl
              have hcz16_3 : wr.cell? ⟨gb270, 3, none⟩ = some (.bool a0_3) := (blk_cell BK270.out 3).trans rfl
              have hfz16_0 := blk_frozen BK270.out 0
              have hfz16_1 := blk_frozen BK270.out 1
              have hfz16_2 := blk_frozen BK270.out 2
              have hfz16_3 := blk_frozen BK270.out 3
              go_wp2
              go_ret
              exact ⟨by first | rfl | (simp [errW_none, errW_some] <;> rfl) | (simp [*, errW_none, errW_some] <;> rfl), by repeat (first | (with_reducible first | exact HB.out | apply below_alloc | apply pw_below_drewN | apply below_drew1 | refine below_set ?_ GE270.out) | exact HB.out)⟩
          · rw [if_neg c13] at H
            have c13b0 : decide ((a0_0.size : Int) ≤ 16) = false := decide_eq_false c13
            have c13b1 : decide (a0_0.size ≤ 16) = false := decide_eq_false (by omega)
            clear c13
            obtain rfl := Option.some.inj H
            have hcz17_0 : wr.cell? ⟨gb270, 0, none⟩ = some (.string a0_0) := (blk_cell BK270.out 0).trans rfl
            have hcz17_1 : wr.cell? ⟨gb270, 1, none⟩ = some (.int .i64 a0_1) := (blk_cell BK270.out 1).trans rfl
            have hcz17_2 : wr.cell? ⟨gb270, 2, none⟩ = some (.bool a0_2) := (blk_cell BK270.out 2).trans rfl
            have hcz17_3 : wr.cell? ⟨gb270, 3, none⟩ = some (.bool a0_3) := (blk_cell BK270.out 3).trans rfl
            have hfz17_0 := blk_frozen BK270.out 0
            have hfz17_1 := blk_frozen BK270.out 1
            have hfz17_2 := blk_frozen BK270.out 2
            have hfz17_3 := blk_frozen BK270.out 3
            go_wp2
            go_ret
            exact ⟨by first | rfl | (simp [errW_none, errW_some] <;> rfl) | (simp [*, errW_none, errW_some] <;> rfl), by repeat (first | (with_reducible first | exact HB.out | apply below_alloc | apply pw_below_drewN | apply below_drew1 | refine below_set ?_ GE270.out) | exact HB.out)⟩
        · rw [if_neg c12] at H
          have c12b0 : decide (1 ≤ (a0_0.size : Int)) = false := decide_eq_false c12
          have c12b1 : decide (1 ≤ a0_0.size) = false := decide_eq_false (by omega)
          clear c12
          obtain rfl := Option.some.inj H
          have hcz18_0 : wr.cell? ⟨gb270, 0, none⟩ = some (.string a0_0) := (blk_cell BK270.out 0).trans rfl
          have hcz18_1 : wr.cell? ⟨gb270, 1, none⟩ = some (.int .i64 a0_1) := (blk_cell BK270.out 1).trans rfl
          have hcz18_2 : wr.cell? ⟨gb270, 2, none⟩ = some (.bool a0_2) := (blk_cell BK270.out 2).trans rfl
          have hcz18_3 : wr.cell? ⟨gb270, 3, none⟩ = some (.bool a0_3) := (blk_cell BK270.out 3).trans rfl
          have hfz18_0 := blk_frozen BK270.out 0
          have hfz18_1 := blk_frozen BK270.out 1
          have hfz18_2 := blk_frozen BK270.out 2
          have hfz18_3 := blk_frozen BK270.out 3
          go_wp2
          go_ret
          exact ⟨by first | rfl | (simp [errW_none, errW_some] <;> rfl) | (simp [*, errW_none, errW_some] <;> rfl), by repeat (first | (with_reducible first | exact HB.out | apply below_alloc | apply pw_below_drewN | apply below_drew1 | refine below_set ?_ GE270.out) | exact HB.out)⟩
end Go.Proofs.YtagkhoeidjlahaaDoor.G
namespace Go.Proofs.YtagkhoeidjlahaaDoor.G
open Go.RowKit Go.Proofs.YtagkhoeidjlahaaDoorW.PrintWords Go.Proofs.YtagkhoeidjlahaaDoorW.PrintLast Go.Proofs.YtagkhoeidjlahaaDoorW.PrintMore
attribute [local go_sem] max2_int min2_int max_two min_two max_three min_three max_four min_four
set_option linter.unusedVariables false
set_option linter.unusedSimpArgs false
mutual
def vinculumref08_Valid.l0 : Nat → List (S68) → Int → Option (Bool)
  | 0, _, _ => none
  | k + 1, x0, x3 => if x3 < (x0.length : Int) then (if 0 ≤ x3 then ((vinculumref08_proper.f k ((rd_T68 x0 x3).f0) ((rd_T68 x0 x3).f1) ((rd_T68 x0 x3).f2) ((rd_T68 x0 x3).f3)).bind fun t272 => (if t272 = true then (vinculumref08_Valid.l1 k x0 x3 0) else (some false))) else (none)) else (some (decide ((x0.length : Int) ≤ 200)))
def vinculumref08_Valid.l1 : Nat → List (S68) → Int → Int → Option (Bool)
  | 0, _, _, _ => none
  | k + 1, x0, x3, x4 => if x4 < x3 then (if 0 ≤ x4 then (if x4 < (x0.length : Int) then (if 0 ≤ x3 then (if x3 < (x0.length : Int) then (if ((rd_T68 x0 x4).f0).toList = ((rd_T68 x0 x3).f0).toList then (some false) else (vinculumref08_Valid.l1 k x0 x3 (wrap64 (x4 + 1)))) else (none)) else (none)) else (none)) else (none)) else (vinculumref08_Valid.l0 k x0 (wrap64 (x3 + 1)))
end
def vinculumref08_Valid.f (k : Nat) (l0 : List (S68)) : Option (Bool) := vinculumref08_Valid.l0 k l0 0
set_option maxHeartbeats 8000000 in
set_option maxRecDepth 100000 in
theorem vinculumref08_Valid.calls (k : Nat) (A0 : Option Addr) (c0 : Nat) (l0 : List (S68)) (r : Bool) (w : World) (hr0 : Kd.C k68 w A0 l0.length l0) (hc0 : l0.length ≤ c0) (h : vinculumref08_Valid.f k l0 = some r) :
    Calls Tryd.prog 65 #[.slice A0 l0.length c0] w fun e w' => e = .returned (.bool r) ∧ Below w.heap.size w w' := by
  have hu68 := Tryd.underlying68
  have HR0 := Aside0.mk hr0
  have HC0 := Aside0.mk hc0
  clear hr0 hc0
  have HB := Aside0.mk (Below.refl w.heap.size w)
  have H : (vinculumref08_Valid.l0 k l0 0) = some r := h
  clear h
  have H' := Aside0.mk H
  clear H
  go_enter Tryd.func65, Tryd.ntmps65
  go_wp2
  repeat (go_quiet (fail); try go_wp2)
  go_loopg [3] k (fun kq v3 w' => ∃ (x3_1 : Int), v3 = .int .i64 x3_1 ∧ Aside0 (vinculumref08_Valid.l0 kq l0 x3_1 = some r) ∧ Aside0 (kq ≤ k) ∧ Aside0 (Below w.heap.size w w'))
  case atStart => exact ⟨(0), (by first | rfl | (simp; done) | (simp [*]; done)), H', ⟨Nat.le_refl _⟩, ⟨by repeat (first | (with_reducible first | exact HB.out | apply below_alloc | apply pw_below_drewN | apply below_drew1) | exact HB.out)⟩⟩
  case round =>
    clear H'
    obtain ⟨x3_1, rfl, HA, HK1, HB⟩ := hrel
    cases gk with
    | zero => exact absurd HA.out (by simp [vinculumref08_Valid.l0])
    | succ k1 =>
      have H := HA.out
      clear HA
      simp only [vinculumref08_Valid.l0] at H
      by_cases c2 : x3_1 < (l0.length : Int)
      · rw [if_pos c2] at H
        have c2b0 : decide (x3_1 < (l0.length : Int)) = true := decide_eq_true c2
        clear c2
        by_cases c3 : 0 ≤ x3_1
        · rw [if_pos c3] at H
          have c3b0 : decide (0 ≤ x3_1) = true := decide_eq_true c3
          clear c3
          replace H := Option.bind_eq_some_iff.mp H
          obtain ⟨t272, A40, H⟩ := H
          replace H : (if t272 = true then (vinculumref08_Valid.l1 k1 l0 x3_1 0) else (some false)) = some r := H
          have A4 := Aside0.mk A40
          clear A40
          by_cases c5 : t272 = true
          · subst c5
            have H1 : (vinculumref08_Valid.l1 k1 l0 x3_1 0) = some r := by rw [if_pos rfl] at H; exact H
            clear H
            have H := H1
            clear H1
            have H' := Aside0.mk H
            clear H
            have p271 : 0 ≤ (x3_1 : Int) := of_decide_eq_true (by first | (with_reducible assumption) | assumption)
            have q271 : x3_1 < (l0.length : Int) := of_decide_eq_true (by first | (with_reducible assumption) | assumption)
            obtain ⟨ad271, e271, hx271_0, hx271_1, hx271_2, hx271_3⟩ := at_T68 HR0.out x3_1 p271 q271
            cases e271
            replace hx271_0 := (HB.out.cell (World.block_lt_of_cell? w _ hx271_0)).trans hx271_0
            replace hx271_1 := (HB.out.cell (World.block_lt_of_cell? w _ hx271_1)).trans hx271_1
            replace hx271_2 := (HB.out.cell (World.block_lt_of_cell? w _ hx271_2)).trans hx271_2
            replace hx271_3 := (HB.out.cell (World.block_lt_of_cell? w _ hx271_3)).trans hx271_3
            replace p271 := eq_true p271
            replace q271 := eq_true q271
            go_wp2_with (first | (go_at_call 91; (with_reducible refine (vinculumref08_proper.calls k1 ((rd_T68 l0 x3_1).f0) ((rd_T68 l0 x3_1).f1) ((rd_T68 l0 x3_1).f2) ((rd_T68 l0 x3_1).f3) true _ A4.out).mono ?_); rintro e w6 ⟨rfl, hb⟩; have n0_ := Aside0.mk (below_step (by repeat (first | (with_reducible first | exact HB.out | apply below_alloc | apply pw_below_drewN | apply below_drew1) | exact HB.out)) hb); clear HB; have HB := n0_; clear n0_; (try clear hb); (try clear hb2); (try clear hk); (try clear hi)))
            repeat (go_quiet (first | (go_at_call 91; (with_reducible refine (vinculumref08_proper.calls k1 ((rd_T68 l0 x3_1).f0) ((rd_T68 l0 x3_1).f1) ((rd_T68 l0 x3_1).f2) ((rd_T68 l0 x3_1).f3) true _ A4.out).mono ?_); rintro e w6 ⟨rfl, hb⟩; have n0_ := Aside0.mk (below_step (by repeat (first | (with_reducible first | exact HB.out | apply below_alloc | apply pw_below_drewN | apply below_drew1) | exact HB.out)) hb); clear HB; have HB := n0_; clear n0_; (try clear hb); (try clear hb2); (try clear hk); (try clear hi))); try go_wp2_with (first | (go_at_call 91; (with_reducible refine (vinculumref08_proper.calls k1 ((rd_T68 l0 x3_1).f0) ((rd_T68 l0 x3_1).f1) ((rd_T68 l0 x3_1).f2) ((rd_T68 l0 x3_1).f3) true _ A4.out).mono ?_); rintro e w6 ⟨rfl, hb⟩; have n0_ := Aside0.mk (below_step (by repeat (first | (with_reducible first | exact HB.out | apply below_alloc | apply pw_below_drewN | apply below_drew1) | exact HB.out)) hb); clear HB; have HB := n0_; clear n0_; (try clear hb); (try clear hb2); (try clear hk); (try clear hi))))
            go_loopg [4] k1 (fun kq v4 w' => ∃ (x4_2 : Int), v4 = .int .i64 x4_2 ∧ Aside0 (vinculumref08_Valid.l1 kq l0 x3_1 x4_2 = some r) ∧ Aside0 (kq ≤ k1) ∧ Aside0 (Below w.heap.size w w'))
            case atStart => exact ⟨(0), (by first | rfl | (simp; done) | (simp [*]; done)), H', ⟨Nat.le_refl _⟩, ⟨by repeat (first | (with_reducible first | exact HB.out | apply below_alloc | apply pw_below_drewN | apply below_drew1) | exact HB.out)⟩⟩
            case round =>
              clear H'
              try clear c2
              try clear c2b0
              try clear p2
              try clear q2
              try clear hx2
              try clear c3
              try clear c3b0
              try clear c5
              try clear c6
              try clear hx271_0
              try clear hx271_1
              try clear hx271_2
              try clear hx271_3
              try clear p271
              try clear q271
              obtain ⟨x4_2, rfl, HA, HK2, HB⟩ := hrel
              cases gk with
              | zero => exact absurd HA.out (by simp [vinculumref08_Valid.l1])
              | succ k2 =>
                have H := HA.out
                clear HA
                simp only [vinculumref08_Valid.l1] at H
                by_cases c7 : x4_2 < x3_1
                · rw [if_pos c7] at H
                  have c7b0 : decide (x4_2 < x3_1) = true := decide_eq_true c7
                  clear c7
                  by_cases c8 : 0 ≤ x4_2
                  · rw [if_pos c8] at H
                    have c8b0 : decide (0 ≤ x4_2) = true := decide_eq_true c8
                    clear c8
                    by_cases c9 : x4_2 < (l0.length : Int)
                    · rw [if_pos c9] at H
                      have c9b0 : decide (x4_2 < (l0.length : Int)) = true := decide_eq_true c9
                      clear c9
                      by_cases c10 : 0 ≤ x3_1
                      · rw [if_pos c10] at H
                        have c10b0 : decide (0 ≤ x3_1) = true := decide_eq_true c10
                        clear c10
                        by_cases c11 : x3_1 < (l0.length : Int)
                        · rw [if_pos c11] at H
                          have c11b0 : decide (x3_1 < (l0.length : Int)) = true := decide_eq_true c11
                          clear c11
                          by_cases c12 : ((rd_T68 l0 x4_2).f0).toList = ((rd_T68 l0 x3_1).f0).toList
                          · rw [if_pos c12] at H
                            have c12b0 : (((rd_T68 l0 x4_2).f0).toList == ((rd_T68 l0 x3_1).f0).toList) = true := beq_iff_eq.mpr c12
                            have c12b1 : (((rd_T68 l0 x4_2).f0).toList != ((rd_T68 l0 x3_1).f0).toList) = false := bne_eq_false_iff_eq.mpr c12
                            clear c12
                            obtain rfl := Option.some.inj H
                            have p273 : 0 ≤ (x4_2 : Int) := of_decide_eq_true (by first | (with_reducible assumption) | assumption)
                            have q273 : x4_2 < (l0.length : Int) := of_decide_eq_true (by first | (with_reducible assumption) | assumption)
                            obtain ⟨ad273, e273, hx273_0, hx273_1, hx273_2, hx273_3⟩ := at_T68 HR0.out x4_2 p273 q273
                            obtain rfl : ad271 = ad273 := (by injection e273)
                            replace hx273_0 := (HB.out.cell (World.block_lt_of_cell? w _ hx273_0)).trans hx273_0
                            replace hx273_1 := (HB.out.cell (World.block_lt_of_cell? w _ hx273_1)).trans hx273_1
                            replace hx273_2 := (HB.out.cell (World.block_lt_of_cell? w _ hx273_2)).trans hx273_2
                            replace hx273_3 := (HB.out.cell (World.block_lt_of_cell? w _ hx273_3)).trans hx273_3
                            replace p273 := eq_true p273
                            replace q273 := eq_true q273
                            have p274 : 0 ≤ (x3_1 : Int) := of_decide_eq_true (by first | (with_reducible assumption) | assumption)
                            have q274 : x3_1 < (l0.length : Int) := of_decide_eq_true (by first | (with_reducible assumption) | assumption)
                            obtain ⟨ad274, e274, hx274_0, hx274_1, hx274_2, hx274_3⟩ := at_T68 HR0.out x3_1 p274 q274
                            obtain rfl : ad271 = ad274 := (by injection e274)
                            replace hx274_0 := (HB.out.cell (World.block_lt_of_cell? w _ hx274_0)).trans hx274_0
                            replace hx274_1 := (HB.out.cell (World.block_lt_of_cell? w _ hx274_1)).trans hx274_1
                            replace hx274_2 := (HB.out.cell (World.block_lt_of_cell? w _ hx274_2)).trans hx274_2
                            replace hx274_3 := (HB.out.cell (World.block_lt_of_cell? w _ hx274_3)).trans hx274_3
                            replace p274 := eq_true p274
                            replace q274 := eq_true q274
                            go_wp2
                            repeat (go_quiet (fail); try go_wp2)
                            go_ret
                            exact ⟨by first | rfl | (simp [errW_none, errW_some] <;> rfl) | (simp [*, errW_none, errW_some] <;> rfl), by repeat (first | (with_reducible first | exact HB.out | apply below_alloc | apply pw_below_drewN | apply below_drew1) | exact HB.out)⟩
                          · rw [if_neg c12] at H
                            have c12b0 : (((rd_T68 l0 x4_2).f0).toList == ((rd_T68 l0 x3_1).f0).toList) = false := beq_eq_false_iff_ne.mpr c12
                            have c12b1 : (((rd_T68 l0 x4_2).f0).toList != ((rd_T68 l0 x3_1).f0).toList) = true := bne_iff_ne.mpr c12
                            have H' := Aside0.mk H
                            clear H
                            have p273 : 0 ≤ (x4_2 : Int) := of_decide_eq_true (by first | (with_reducible assumption) | assumption)
                            have q273 : x4_2 < (l0.length : Int) := of_decide_eq_true (by first | (with_reducible assumption) | assumption)
                            obtain ⟨ad273, e273, hx273_0, hx273_1, hx273_2, hx273_3⟩ := at_T68 HR0.out x4_2 p273 q273
                            obtain rfl : ad271 = ad273 := (by injection e273)
                            replace hx273_0 := (HB.out.cell (World.block_lt_of_cell? w _ hx273_0)).trans hx273_0
                            replace hx273_1 := (HB.out.cell (World.block_lt_of_cell? w _ hx273_1)).trans hx273_1
                            replace hx273_2 := (HB.out.cell (World.block_lt_of_cell? w _ hx273_2)).trans hx273_2
                            replace hx273_3 := (HB.out.cell (World.block_lt_of_cell? w _ hx273_3)).trans hx273_3
                            replace p273 := eq_true p273
                            replace q273 := eq_true q273
                            have p274 : 0 ≤ (x3_1 : Int) := of_decide_eq_true (by first | (with_reducible assumption) | assumption)
                            have q274 : x3_1 < (l0.length : Int) := of_decide_eq_true (by first | (with_reducible assumption) | assumption)
                            obtain ⟨ad274, e274, hx274_0, hx274_1, hx274_2, hx274_3⟩ := at_T68 HR0.out x3_1 p274 q274
                            obtain rfl : ad271 = ad274 := (by injection e274)
                            replace hx274_0 := (HB.out.cell (World.block_lt_of_cell? w _ hx274_0)).trans hx274_0
                            replace hx274_1 := (HB.out.cell (World.block_lt_of_cell? w _ hx274_1)).trans hx274_1
                            replace hx274_2 := (HB.out.cell (World.block_lt_of_cell? w _ hx274_2)).trans hx274_2
                            replace hx274_3 := (HB.out.cell (World.block_lt_of_cell? w _ hx274_3)).trans hx274_3
                            replace p274 := eq_true p274
                            replace q274 := eq_true q274
                            go_wp2
                            repeat (go_quiet (fail); try go_wp2)
                            go_roundg k2
                            case measure => have := HK1.out; have := HK2.out; omega
                            case rel => exact ⟨(wrap64 (x4_2 + 1)), (by first | rfl | (simp; done) | (simp [*]; done)), H', ⟨by have := HK1.out; have := HK2.out; omega⟩, ⟨by repeat (first | (with_reducible first | exact HB.out | apply below_alloc | apply pw_below_drewN | apply below_drew1) | exact HB.out)⟩⟩
                        · rw [if_neg c11] at H
                          exact absurd H (by simp)
                      · rw [if_neg c10] at H
                        exact absurd H (by simp)
                    · rw [if_neg c9] at H
                      exact absurd H (by simp)
                  · rw [if_neg c8] at H
                    exact absurd H (by simp)
                · rw [if_neg c7] at H
                  have c7b0 : decide (x4_2 < x3_1) = false := decide_eq_false c7
                  clear c7
                  have H' := Aside0.mk H
                  clear H
                  go_wp2
                  repeat (go_quiet (fail); try go_wp2)
                  go_roundg k2
                  case measure => have := HK1.out; have := HK2.out; omega
                  case rel => exact ⟨(wrap64 (x3_1 + 1)), (by first | rfl | (simp; done) | (simp [*]; done)), H', ⟨by have := HK1.out; have := HK2.out; omega⟩, ⟨by repeat (first | (with_reducible first | exact HB.out | apply below_alloc | apply pw_below_drewN | apply below_drew1) | exact HB.out)⟩⟩
          · replace c5 := Bool.eq_false_iff.mpr c5
            subst c5
            have H1 : (some false) = some r := by rw [if_neg (show ¬ (false = true) by decide)] at H; exact H
            clear H
            have H := H1
            clear H1
            obtain rfl := Option.some.inj H
            have p271 : 0 ≤ (x3_1 : Int) := of_decide_eq_true (by first | (with_reducible assumption) | assumption)
            have q271 : x3_1 < (l0.length : Int) := of_decide_eq_true (by first | (with_reducible assumption) | assumption)
            obtain ⟨ad271, e271, hx271_0, hx271_1, hx271_2, hx271_3⟩ := at_T68 HR0.out x3_1 p271 q271
            cases e271
            replace hx271_0 := (HB.out.cell (World.block_lt_of_cell? w _ hx271_0)).trans hx271_0
            replace hx271_1 := (HB.out.cell (World.block_lt_of_cell? w _ hx271_1)).trans hx271_1
            replace hx271_2 := (HB.out.cell (World.block_lt_of_cell? w _ hx271_2)).trans hx271_2
            replace hx271_3 := (HB.out.cell (World.block_lt_of_cell? w _ hx271_3)).trans hx271_3
            replace p271 := eq_true p271
            replace q271 := eq_true q271
            go_wp2_with (first | (go_at_call 91; (with_reducible refine (vinculumref08_proper.calls k1 ((rd_T68 l0 x3_1).f0) ((rd_T68 l0 x3_1).f1) ((rd_T68 l0 x3_1).f2) ((rd_T68 l0 x3_1).f3) false _ A4.out).mono ?_); rintro e w13 ⟨rfl, hb⟩; have n0_ := Aside0.mk (below_step (by repeat (first | (with_reducible first | exact HB.out | apply below_alloc | apply pw_below_drewN | apply below_drew1) | exact HB.out)) hb); clear HB; have HB := n0_; clear n0_; (try clear hb); (try clear hb2); (try clear hk); (try clear hi)))
            repeat (go_quiet (first | (go_at_call 91; (with_reducible refine (vinculumref08_proper.calls k1 ((rd_T68 l0 x3_1).f0) ((rd_T68 l0 x3_1).f1) ((rd_T68 l0 x3_1).f2) ((rd_T68 l0 x3_1).f3) false _ A4.out).mono ?_); rintro e w13 ⟨rfl, hb⟩; have n0_ := Aside0.mk (below_step (by repeat (first | (with_reducible first | exact HB.out | apply below_alloc | apply pw_below_drewN | apply below_drew1) | exact HB.out)) hb); clear HB; have HB := n0_; clear n0_; (try clear hb); (try clear hb2); (try clear hk); (try clear hi))); try go_wp2_with (first | (go_at_call 91; (with_reducible refine (vinculumref08_proper.calls k1 ((rd_T68 l0 x3_1).f0) ((rd_T68 l0 x3_1).f1) ((rd_T68 l0 x3_1).f2) ((rd_T68 l0 x3_1).f3) false _ A4.out).mono ?_); rintro e w13 ⟨rfl, hb⟩; have n0_ := Aside0.mk (below_step (by repeat (first | (with_reducible first | exact HB.out | apply below_alloc | apply pw_below_drewN | apply below_drew1) | exact HB.out)) hb); clear HB; have HB := n0_; clear n0_; (try clear hb); (try clear hb2); (try clear hk); (try clear hi))))
            go_ret
            exact ⟨by first | rfl | (simp [errW_none, errW_some] <;> rfl) | (simp [*, errW_none, errW_some] <;> rfl), by repeat (first | (with_reducible first | exact HB.out | apply below_alloc | apply pw_below_drewN | apply below_drew1) | exact HB.out)⟩
        · rw [if_neg c3] at H
          exact absurd H (by simp)
      · rw [if_neg c2] at H
        have c2b0 : decide (x3_1 < (l0.length : Int)) = false := decide_eq_false c2
        clear c2
        obtain rfl := Option.some.inj H
        go_wp2
        repeat (go_quiet (fail); try go_wp2)
        go_ret
        exact ⟨by first | rfl | (simp [errW_none, errW_some] <;> rfl) | (simp [*, errW_none, errW_some] <;> rfl), by repeat (first | (with_reducible first | exact HB.out | apply below_alloc | apply pw_below_drewN | apply below_drew1) | exact HB.out)⟩
end Go.Proofs.YtagkhoeidjlahaaDoor.G
