-- Written by pack2.py: this session's texts and the printer's, pruned.
import Derived.Test.YtagkhoeidjlahaaDoorCSe2
import Derived.Test.YtagkhoeidjlahaaDoorCSe19
namespace Go.Proofs.YtagkhoeidjlahaaDoor.G
open Go.RowKit Go.Proofs.YtagkhoeidjlahaaDoorW.PrintWords Go.Proofs.YtagkhoeidjlahaaDoorW.PrintLast Go.Proofs.YtagkhoeidjlahaaDoorW.PrintMore
attribute [local go_sem] max2_int min2_int max_two min_two max_three min_three max_four min_four
set_option linter.unusedVariables false
set_option linter.unusedSimpArgs false
def vinculumref09_Few.f (k : Nat) (a0_0 : Int) (a0_1 : ByteArray) (a0_2 : Int) (l0_3 : List (S36)) (a1 : Int) : Option (Bool) := (vinculumref09_left.f k a0_0 a0_1 a0_2 l0_3 a1).bind fun t207 => (some (decide (t207 ≥ 0)))
set_option maxHeartbeats 8000000 in
set_option maxRecDepth 100000 in
theorem vinculumref09_Few.calls (k : Nat) (a0_0 : Int) (a0_1 : ByteArray) (a0_2 : Int) (A0_3 : Option Addr) (c0_3 : Nat) (l0_3 : List (S36)) (a1 : Int) (r : Bool) (w : World) (hr0_3 : Kd.C k36 w A0_3 l0_3.length l0_3) (hc0_3 : l0_3.length ≤ c0_3) (h : vinculumref09_Few.f k a0_0 a0_1 a0_2 l0_3 a1 = some r) :
  Calls Tryd.prog 61 #[.agg #[.int .i64 a0_0, .string a0_1, .int .i64 a0_2, .slice A0_3 l0_3.length c0_3], .int .i64 a1] w fun e w' => e = .returned (.bool r) ∧ Below w.heap.size w w' := by
 have hu36 := Tryd.underlying36
 have HR0_3 := Aside0.mk hr0_3
 have HC0_3 := Aside0.mk hc0_3
 clear hr0_3 hc0_3
 have HB := Aside0.mk (Below.refl w.heap.size w)
 have H : ((vinculumref09_left.f k a0_0 a0_1 a0_2 l0_3 a1).bind fun t207 => (some (decide (t207 ≥ 0)))) = some r := h
 clear h
 replace H := Option.bind_eq_some_iff.mp H
 obtain ⟨t207, A30, H⟩ := H
 replace H : (some (decide (t207 ≥ 0))) = some r := H
 have A3 := Aside0.mk A30
 clear A30
 obtain rfl := Option.some.inj H
 go_enter Tryd.func61, Tryd.ntmps61
 go_wp2_with (first | ((with_reducible refine gate_dst (N := 2) rfl ?_); refine box_event ?hg (N := 2) ?hd (cs := #[.int .i64 a0_0, .string a0_1, .int .i64 a0_2, .slice A0_3 l0_3.length c0_3]) (t := 36) ?hr ?_; (case hd => rfl); (case hg => rfl); (case hr => first | (go_simp; done) | (go_simp; rfl)); intro gb206 hg w4 hbox hb; have n0_ := Aside0.mk (below_step (by repeat (first | (with_reducible first | exact HB.out | apply below_alloc | apply pw_below_drewN | apply below_drew1) | exact HB.out)) hb); have n1_ := Aside0.mk (hbox); have n2_ := Aside0.mk ((by rw [hg]; exact (below_size (by repeat (first | (with_reducible first | exact HB.out | apply below_alloc | apply pw_below_drewN | apply below_drew1) | exact HB.out))) : w.heap.size ≤ gb206)); have n3_ := Aside0.mk ((by rw [hg]; exact (below_size (by repeat (first | (with_reducible first | exact HB.out | apply below_alloc | apply pw_below_drewN | apply below_drew1) | exact HB.out))) : w.heap.size ≤ gb206)); clear HB; have HB := n0_; have BK206 := n1_; have GW206 := n2_; have GE206 := n3_; clear n0_ n1_ n2_ n3_; clear hb hbox hg; have hcz5_0 : w4.cell? ⟨gb206, 0, none⟩ = some (.int .i64 a0_0) := (blk_cell BK206.out 0).trans rfl; have hcz5_1 : w4.cell? ⟨gb206, 1, none⟩ = some (.string a0_1) := (blk_cell BK206.out 1).trans rfl; have hcz5_2 : w4.cell? ⟨gb206, 2, none⟩ = some (.int .i64 a0_2) := (blk_cell BK206.out 2).trans rfl; have hcz5_3 : w4.cell? ⟨gb206, 3, none⟩ = some (.slice A0_3 l0_3.length c0_3) := (blk_cell BK206.out 3).trans rfl; have hfz5_0 := blk_frozen BK206.out 0; have hfz5_1 := blk_frozen BK206.out 1; have hfz5_2 := blk_frozen BK206.out 2; have hfz5_3 := blk_frozen BK206.out 3) | ((with_reducible refine gate_callee (f := 86) rfl ?_); refine goesL_ (some 7) rfl rfl Tryd.func86 (by kernel_rfl) rfl #[.agg #[.int .i64 a0_0, .string a0_1, .int .i64 a0_2, .slice A0_3 l0_3.length c0_3], .int .i64 a1] rfl (by (try simp only [List.map_toArray, List.map_cons, List.map_nil]); first | done | rfl | (simp only [List.length_drop, List.length_take]; rfl)) ?_; (with_reducible refine (vinculumref09_left.calls k a0_0 a0_1 a0_2 _ _ l0_3 a1 t207 _ ?side1 ?side2 A3.out).mono ?_); (case side1 => repeat (first | exact (Kd.C_below HR0_3.out HB.out) | (with_reducible refine Kd.C_alloc ?_ _) | (with_reducible refine Kd.C_drewN ?_ _) | (with_reducible refine Kd.C_drew ?_))); (case side2 => exact HC0_3.out); rintro e w6 ⟨rfl, hb⟩; refine ⟨_, rfl, ?_⟩; have n0_ := Aside0.mk (blk_below (g := gb206) (o := .cells #[.int .i64 a0_0, .string a0_1, .int .i64 a0_2, .slice A0_3 l0_3.length c0_3] 36 (0, 0)) (by (with_reducible repeat (first | refine blk_drewN ?_ _ | refine blk_drew ?_ | refine blk_alloc ?_ _)); exact BK206.out) hb); have n1_ := Aside0.mk (below_step (by repeat (first | (with_reducible first | exact HB.out | apply below_alloc | apply pw_below_drewN | apply below_drew1 | refine below_set ?_ GE206.out) | exact HB.out)) hb); clear BK206; clear HB; have BK206 := n0_; have HB := n1_; clear n0_ n1_; (try clear hb); (try clear hb2); (try clear hk); (try clear hi)))
 go_ret
 exact ⟨by first | rfl | (simp [errW_none, errW_some] <;> rfl) | (simp [*, errW_none, errW_some] <;> rfl), by repeat (first | (with_reducible first | exact HB.out | apply below_alloc | apply pw_below_drewN | apply below_drew1 | refine below_set ?_ GE206.out) | exact HB.out)⟩
end Go.Proofs.YtagkhoeidjlahaaDoor.G
namespace Go.Proofs.YtagkhoeidjlahaaDoor.G.Pure
open Go.Proofs.YtagkhoeidjlahaaDoorW.PrintWords Go.RowKit
set_option linter.unusedVariables false
set_option linter.unusedSimpArgs false
def shp (kd : Int) (s : ByteArray) (cols : Int) (n : Nat) : Bool :=
 if kd = 1 then shR s cols n else if kd = 12 then shM s cols n
 else if kd = 2 then shT (symB s) cols n 0
 else if kd = 3 then shT (numB (L s)) cols n 0
 else if kd = 4 then shT (priB (L s) && decide (s.size ≤ 200)) cols n 0
 else if kd = 10 then shT (inB accs s) cols n 1
 else if kd = 11 then shT (fenB s) cols n 1
 else if kd = 9 then shT (s.toList == []) cols n 3
 else if 5 ≤ kd ∧ kd ≤ 8 then shT (s.toList == []) cols n 2
 else false
theorem nAcc_ev (s : ByteArray) : Ev (fun k => node_accent.f k s) (inB accs s) := by
 unfold node_accent.f
 exact ev_bind (Contains_ev accs s (by decide)) (Ev.now _)
theorem nPri_ev (s : ByteArray) (hs : s.size ≤ M) : Ev (fun k => node_printable.f k s) (priB (L s) && decide (s.size ≤ 200)) := by
 have := nPri_l s hs s.size 0 rfl
 simpa [node_printable.f] using this
theorem shape_ev (kd : Int) (s : ByteArray) (cols : Int) (n : Nat) (hs : s.size ≤ M) : Ev (fun k => shapeF k kd s cols n) (shp kd s cols n) := by
 unfold shapeF shp
 by_cases h1 : kd = 1
 ·
  simp only [h1, if_true]; exact Ev.now _
 by_cases h12 : kd = 12
 ·
  simp only [h1, h12, if_true, if_false]; exact Ev.now _
 by_cases h2 : kd = 2
 ·
  simp only [h1, h12, h2, if_true, if_false]; exact ev_bind (nSym_ev s hs) (Ev.now _)
 by_cases h3 : kd = 3
 ·
  simp only [h1, h12, h2, h3, if_true, if_false]; exact ev_bind (ev_some (nNum_eq s hs)) (Ev.now _)
 by_cases h4 : kd = 4
 ·
  simp only [h1, h12, h2, h3, h4, if_true, if_false]; exact ev_bind (nPri_ev s hs) (Ev.now _)
 by_cases h10 : kd = 10
 ·
  simp only [h1, h12, h2, h3, h4, h10, if_true, if_false]; exact ev_bind (nAcc_ev s) (Ev.now _)
 by_cases h11 : kd = 11
 ·
  simp only [h1, h12, h2, h3, h4, h10, h11, if_true, if_false]; exact ev_bind (ev_some (nFen_eq s)) (Ev.now _)
 simp only [h1, h12, h2, h3, h4, h10, h11, if_false]
 by_cases h9 : kd = 9
 ·
  simp only [h9, if_true]; exact Ev.now _
 simp only [h9, if_false]
 by_cases h5 : 5 ≤ kd ∧ kd ≤ 8
 ·
  simp only [h5, and_self, if_true]; exact Ev.now _
 ·
  simp only [h5, if_false]; exact Ev.now _
def textB (kd : Int) (s : ByteArray) : Bool :=
 if kd = 2 then symB s else if kd = 3 then numB (L s) else if kd = 4 then decide (s.size ≤ 200) && priB (L s)
 else if kd = 10 then inB accs s else if kd = 11 then fenB s else s.toList == []
def kidsB (kd cols : Int) (n : Nat) : Bool :=
 if kd = 12 then decide (1 ≤ cols) && decide (cols ≤ 16) && decide (1 ≤ n) && decide (n ≤ 256) && ((n : Int) % cols == 0)
 else decide (cols = 0) && (if kd = 1 then decide (n ≤ 200) else if kd = 2 ∨ kd = 3 ∨ kd = 4 then n == 0 else if 5 ≤ kd ∧ kd ≤ 8 then n == 2 else if kd = 9 then n == 3 else if kd = 10 ∨ kd = 11 then n == 1 else false)
theorem text_ev (kd : Int) (s : ByteArray) (cols : Int) (l : List S36) (hs : s.size ≤ M) : Ev (fun k => vinculumref09_text.f k kd s cols l) (textB kd s) := by
 unfold vinculumref09_text.f textB
 refine ev_if (fun h => ?_) fun h => ?_
 ·
  rw [if_pos h]; exact ev_bind (rSym_ev s hs) (Ev.now _)
 rw [if_neg h]
 refine ev_if (fun h => ?_) fun h => ?_
 ·
  rw [if_pos h]; exact ev_bind (rNum_ev s hs) (Ev.now _)
 rw [if_neg h]
 refine ev_if (fun h => ?_) fun h => ?_
 ·
  rw [if_pos h]
  refine ev_if (fun h2 => ?_) fun h2 => ev_now ?_
  ·
   rw [decide_eq_true (show s.size ≤ 200 by omega), Bool.true_and]
   have := rPri_l s hs s.size 0 rfl
   exact ev_bind (by simpa [vinculumref09_Printable.f] using this) (Ev.now _)
  ·
   rw [decide_eq_false (show ¬ s.size ≤ 200 by omega)]; rfl
 rw [if_neg h]
 refine ev_if (fun h => ?_) fun h => ?_
 ·
  rw [if_pos h]
  refine ev_bind (ev_some (show vinculumref09_Accents.f = some accs from rfl)) ?_
  exact ev_bind (In_ev accs s (by decide)) (Ev.now _)
 rw [if_neg h]
 refine ev_if (fun h => ?_) fun h => ?_
 ·
  rw [if_pos h]
  unfold fenB
  refine ev_if (fun h2 => ?_) fun h2 => ev_now ?_
  ·
   refine ev_if (fun _ => ?_) fun h => by omega
   rw [decide_eq_true (show s.size = 2 by omega), Bool.true_and]
   refine ev_bind (has_ev dlm (bt s 0) (by decide)) ?_
   refine ev_if (fun h3 => ?_) fun h3 => ev_now ?_
   ·
    refine ev_if (fun _ => ?_) fun h => by omega
    rw [h3, Bool.true_and]
    exact ev_bind (has_ev dlm (bt s 1) (by decide)) (Ev.now _)
   ·
    rw [Bool.not_eq_true] at h3; rw [h3]; rfl
  ·
   rw [decide_eq_false (show ¬ s.size = 2 by omega)]; rfl
 ·
  rw [if_neg h]; exact Ev.now _
theorem k0_ev (x kd : Int) (b : Bool) : Ev (fun k => vinculumref09_kids.j1 k x kd b) (if b = true then x == 2 else if kd = 9 then x == 3 else if kd = 10 then x == 1 else if kd = 11 then x == 1 else false) := by
 refine Ev.step (fun k => by rw [vinculumref09_kids.j1]) ?_
 refine ev_if (fun h => ev_now ?_) fun h => ?_
 ·
  rw [if_pos h]
 rw [if_neg h]
 refine ev_if (fun h => ev_now ?_) fun h => ?_
 ·
  rw [if_pos h]
 rw [if_neg h]
 refine ev_if (fun h => ev_now ?_) fun h => ?_
 ·
  rw [if_pos h]
 rw [if_neg h]
 refine ev_if (fun h => ev_now ?_) fun h => ev_now ?_
 ·
  rw [if_pos h]
 ·
  rw [if_neg h]
theorem kj0_ev (x kd : Int) (b : Bool) : Ev (fun k => vinculumref09_kids.j0 k x kd b) (if b = true then x == 0 else if 5 ≤ kd ∧ kd ≤ 8 then x == 2 else if kd = 9 then x == 3 else if kd = 10 then x == 1 else if kd = 11 then x == 1 else false) := by
 refine Ev.step (fun k => by rw [vinculumref09_kids.j0]) ?_
 refine ev_if (fun h => ev_now ?_) fun h => ?_
 ·
  rw [if_pos h]
 rw [if_neg h]
 refine ev_if (fun h => ?_) fun h5 => ?_
 ·
  subst h; exact k0_ev x 5 true
 refine ev_if (fun h => ?_) fun h6 => ?_
 ·
  subst h; exact k0_ev x 6 true
 refine ev_if (fun h => ?_) fun h7 => ?_
 ·
  subst h; exact k0_ev x 7 true
 by_cases h8 : kd = 8
 ·
  subst h8; exact k0_ev x 8 true
 ·
  rw [if_neg (by omega), beq_eq_false_iff_ne.2 h8]
  exact k0_ev x kd false
theorem kids_ev (kd : Int) (s : ByteArray) (cols : Int) (l : List S36) : Ev (fun k => vinculumref09_kids.f k kd s cols l) (kidsB kd cols l.length) := by
 unfold vinculumref09_kids.f kidsB
 refine ev_if (fun h => ?_) fun h12 => ?_
 ·
  rw [if_pos h]
  refine ev_if (fun h1 => ?_) fun h1 => ev_now ?_
  ·
   rw [decide_eq_true (show 1 ≤ cols by omega), Bool.true_and]
   refine ev_if (fun h2 => ?_) fun h2 => ev_now ?_
   ·
    rw [decide_eq_true h2, Bool.true_and]
    refine ev_if (fun h3 => ?_) fun h3 => ev_now ?_
    ·
     rw [decide_eq_true (show 1 ≤ l.length by omega), Bool.true_and]
     refine ev_if (fun h4 => ?_) fun h4 => ev_now ?_
     ·
      rw [decide_eq_true (show l.length ≤ 256 by omega), Bool.true_and]
      exact ev_if (fun h5 => by omega) fun _ => Ev.now _
     ·
      rw [decide_eq_false (show ¬ l.length ≤ 256 by omega)]; rfl
    ·
     rw [decide_eq_false (show ¬ 1 ≤ l.length by omega)]; rfl
   ·
    rw [decide_eq_false h2]; rfl
  ·
   rw [decide_eq_false (show ¬ 1 ≤ cols by omega)]; rfl
 rw [if_neg h12]
 refine ev_if (fun hc => ?_) fun hc => ev_now ?_
 ·
  rw [decide_eq_true hc, Bool.true_and]
  have z0 : ((l.length : Int) == 0) = (l.length == 0) := by rw [Bool.eq_iff_iff]; simp
  have z1 : ((l.length : Int) == 1) = (l.length == 1) := by rw [Bool.eq_iff_iff]; simp; omega
  have z2 : ((l.length : Int) == 2) = (l.length == 2) := by rw [Bool.eq_iff_iff]; simp; omega
  have z3 : ((l.length : Int) == 3) = (l.length == 3) := by rw [Bool.eq_iff_iff]; simp; omega
  refine ev_if (fun h => ev_now ?_) fun h1 => ?_
  ·
   rw [if_pos h, decide_eq_decide]; omega
  rw [if_neg h1]
  refine ev_if (fun h => ?_) fun h2 => ?_
  ·
   subst h; rw [if_pos (by omega)]; have := kj0_ev l.length 2 true; rw [if_pos rfl, z0] at this; exact this
  refine ev_if (fun h => ?_) fun h3 => ?_
  ·
   subst h; rw [if_pos (by omega)]; have := kj0_ev l.length 3 true; rw [if_pos rfl, z0] at this; exact this
  by_cases h4 : kd = 4
  ·
   subst h4; rw [if_pos (by omega)]; have := kj0_ev l.length 4 true; rw [if_pos rfl, z0] at this; exact this
  ·
   rw [if_neg (by omega), beq_eq_false_iff_ne.2 h4]
   have := kj0_ev l.length kd false
   rw [if_neg (by simp), z1, z2, z3] at this
   by_cases h5 : 5 ≤ kd ∧ kd ≤ 8
   ·
    rw [if_pos h5] at this ⊢; exact this
   rw [if_neg h5] at this ⊢
   by_cases h9 : kd = 9
   ·
    rw [if_pos h9] at this ⊢; exact this
   rw [if_neg h9] at this ⊢
   by_cases h10 : kd = 10
   ·
    rw [if_pos h10] at this; rw [if_pos (by omega)]; exact this
   rw [if_neg h10] at this
   by_cases h11 : kd = 11
   ·
    rw [if_pos h11] at this; rw [if_pos (by omega)]; exact this
   ·
    rw [if_neg h11] at this; rw [if_neg (by omega)]; exact this
 ·
  rw [decide_eq_false hc]; rfl
theorem shp_eq (kd : Int) (s : ByteArray) (cols : Int) (n : Nat) : (textB kd s && kidsB kd cols n) = shp kd s cols n := by
 have em : (s.toList == []) = s.toList.isEmpty := by cases s.toList <;> rfl
 have hc : decide (cols = 0) = (cols == 0) := by rw [Bool.eq_iff_iff]; simp
 unfold textB kidsB shp shR shM shT
 by_cases h1 : kd = 1
 ·
  subst h1; simp [em, hc, Bool.and_assoc]
 by_cases h12 : kd = 12
 ·
  subst h12; simp [em, hc, Bool.and_assoc]
 by_cases h2 : kd = 2
 ·
  subst h2; simp [em, hc, Bool.and_assoc]
 by_cases h3 : kd = 3
 ·
  subst h3; simp [em, hc, Bool.and_assoc]
 by_cases h4 : kd = 4
 ·
  subst h4; simp [em, hc, Bool.and_assoc, Bool.and_left_comm, Bool.and_comm]
 by_cases h10 : kd = 10
 ·
  subst h10; simp [em, hc, Bool.and_assoc]
 by_cases h11 : kd = 11
 ·
  subst h11; simp [em, hc, Bool.and_assoc]
 by_cases h9 : kd = 9
 ·
  subst h9; simp [em, hc, Bool.and_assoc]
 by_cases h5 : 5 ≤ kd ∧ kd ≤ 8
 ·
  simp [h1, h12, h2, h3, h4, h10, h11, h9, h5, em, hc, Bool.and_assoc]
 ·
  simp [h1, h12, h2, h3, h4, h10, h11, h9, h5, em, hc, Bool.and_assoc]
end Go.Proofs.YtagkhoeidjlahaaDoor.G.Pure
