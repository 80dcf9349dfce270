-- Written by pack2.py, a program of this session: this session's texts and those that the kit's printer wrote for this claim, pruned to what the claims use.
import Derived.Test.YtagkhoeidjlahaaDoorCSb2
import Derived.Test.YtagkhoeidjlahaaDoorCSb14
namespace Go.Proofs.YtagkhoeidjlahaaDoor.G
open Go.RowKit Go.Proofs.YtagkhoeidjlahaaDoorW.PrintWords Go.Proofs.YtagkhoeidjlahaaDoorW.PrintLast Go.Proofs.YtagkhoeidjlahaaDoorW.PrintMore
attribute [local go_sem] max2_int min2_int max_two min_two max_three min_three max_four min_four
set_option linter.unusedVariables false
set_option linter.unusedSimpArgs false
def vinculumref09_Few.f (k : Nat) (a0_0 : Int) (a0_1 : ByteArray) (a0_2 : Int) (l0_3 : List (S36)) (a1 : Int) : Option (Bool) := (vinculumref09_left.f k a0_0 a0_1 a0_2 l0_3 a1).bind fun t207 => (some (decide (t207 ≥ 0)))
set_option maxHeartbeats 8000000 in
set_option maxRecDepth 100000 in
theorem vinculumref09_Few.calls (k : Nat) (a0_0 : Int) (a0_1 : ByteArray) (a0_2 : Int) (A0_3 : Option Addr) (c0_3 : Nat) (l0_3 : List (S36)) (a1 : Int) (r : Bool) (w : World) (hr0_3 : Kd.C k36 w A0_3 l0_3.length l0_3) (hc0_3 : l0_3.length ≤ c0_3) (h : vinculumref09_Few.f k a0_0 a0_1 a0_2 l0_3 a1 = some r) :
  Calls Tryd.prog 61 #[.agg #[.int .i64 a0_0, .string a0_1, .int .i64 a0_2, .slice A0_3 l0_3.length c0_3], .int .i64 a1] w fun e w' => e = .returned (.bool r) ∧ Below w.heap.size w w' := by
 have hu36 := Tryd.underlying36
 have HR0_3 := Aside0.mk hr0_3
 have HC0_3 := Aside0.mk hc0_3
 clear hr0_3 hc0_3
 have HB := Aside0.mk (Below.refl w.heap.size w)
 have H : ((vinculumref09_left.f k a0_0 a0_1 a0_2 l0_3 a1).bind fun t207 => (some (decide (t207 ≥ 0)))) = some r := h
 clear h
 replace H := Option.bind_eq_some_iff.mp H
 obtain ⟨t207, A30, H⟩ := H
 replace H : (some (decide (t207 ≥ 0))) = some r := H
 have A3 := Aside0.mk A30
 clear A30
 obtain rfl := Option.some.inj H
 go_enter Tryd.func61, Tryd.ntmps61
 go_wp2_with (first | ((with_reducible refine gate_dst (N := 2) rfl ?_); refine box_event ?hg (N := 2) ?hd (cs := #[.int .i64 a0_0, .string a0_1, .int .i64 a0_2, .slice A0_3 l0_3.length c0_3]) (t := 36) ?hr ?_; (case hd => rfl); (case hg => rfl); (case hr => first | (go_simp; done) | (go_simp; rfl)); intro gb206 hg w4 hbox hb; have n0_ := Aside0.mk (below_step (by repeat (first | (with_reducible first | exact HB.out | apply below_alloc | apply pw_below_drewN | apply below_drew1) | exact HB.out)) hb); have n1_ := Aside0.mk (hbox); have n2_ := Aside0.mk ((by rw [hg]; exact (below_size (by repeat (first | (with_reducible first | exact HB.out | apply below_alloc | apply pw_below_drewN | apply below_drew1) | exact HB.out))) : w.heap.size ≤ gb206)); have n3_ := Aside0.mk ((by rw [hg]; exact (below_size (by repeat (first | (with_reducible first | exact HB.out | apply below_alloc | apply pw_below_drewN | apply below_drew1) | exact HB.out))) : w.heap.size ≤ gb206)); clear HB; have HB := n0_; have BK206 := n1_; have GW206 := n2_; have GE206 := n3_; clear n0_ n1_ n2_ n3_; clear hb hbox hg; have hcz5_0 : w4.cell? ⟨gb206, 0, none⟩ = some (.int .i64 a0_0) := (blk_cell BK206.out 0).trans rfl; have hcz5_1 : w4.cell? ⟨gb206, 1, none⟩ = some (.string a0_1) := (blk_cell BK206.out 1).trans rfl; have hcz5_2 : w4.cell? ⟨gb206, 2, none⟩ = some (.int .i64 a0_2) := (blk_cell BK206.out 2).trans rfl; have hcz5_3 : w4.cell? ⟨gb206, 3, none⟩ = some (.slice A0_3 l0_3.length c0_3) := (blk_cell BK206.out 3).trans rfl; have hfz5_0 := blk_frozen BK206.out 0; have hfz5_1 := blk_frozen BK206.out 1; have hfz5_2 := blk_frozen BK206.out 2; have hfz5_3 := blk_frozen BK206.out 3) | ((with_reducible refine gate_callee (f := 86) rfl ?_); refine goesL_ (some 7) rfl rfl Tryd.func86 (by kernel_rfl) rfl #[.agg #[.int .i64 a0_0, .string a0_1, .int .i64 a0_2, .slice A0_3 l0_3.length c0_3], .int .i64 a1] rfl (by (try simp only [List.map_toArray, List.map_cons, List.map_nil]); first | done | rfl | (simp only [List.length_drop, List.length_take]; rfl)) ?_; (with_reducible refine (vinculumref09_left.calls k a0_0 a0_1 a0_2 _ _ l0_3 a1 t207 _ ?side1 ?side2 A3.out).mono ?_); (case side1 => repeat (first | exact (Kd.C_below HR0_3.out HB.out) | (with_reducible refine Kd.C_alloc ?_ _) | (with_reducible refine Kd.C_drewN ?_ _) | (with_reducible refine Kd.C_drew ?_))); (case side2 => exact HC0_3.out); rintro e w6 ⟨rfl, hb⟩; refine ⟨_, rfl, ?_⟩; have n0_ := Aside0.mk (blk_below (g := gb206) (o := .cells #[.int .i64 a0_0, .string a0_1, .int .i64 a0_2, .slice A0_3 l0_3.length c0_3] 36 (0, 0)) (by (with_reducible repeat (first | refine blk_drewN ?_ _ | refine blk_drew ?_ | refine blk_alloc ?_ _)); exact BK206.out) hb); have n1_ := Aside0.mk (below_step (by repeat (first | (with_reducible first | exact HB.out | apply below_alloc | apply pw_below_drewN | apply below_drew1 | refine below_set ?_ GE206.out) | exact HB.out)) hb); clear BK206; clear HB; have BK206 := n0_; have HB := n1_; clear n0_ n1_; (try clear hb); (try clear hb2); (try clear hk); (try clear hi)))
 go_ret
 exact ⟨by first | rfl | (simp [errW_none, errW_some] <;> rfl) | (simp [*, errW_none, errW_some] <;> rfl), by repeat (first | (with_reducible first | exact HB.out | apply below_alloc | apply pw_below_drewN | apply below_drew1 | refine below_set ?_ GE206.out) | exact HB.out)⟩
end Go.Proofs.YtagkhoeidjlahaaDoor.G
namespace Go.Proofs.YtagkhoeidjlahaaDoor.G.Pure
open Go.Proofs.YtagkhoeidjlahaaDoorW.PrintWords Go.RowKit
set_option linter.unusedVariables false
set_option linter.unusedSimpArgs false
def shp (kd : Int) (s : ByteArray) (cols : Int) (n : Nat) : Bool :=
 if kd = 1 then shR s cols n else if kd = 12 then shM s cols n
 else if kd = 2 then shT (symB s) cols n 0
 else if kd = 3 then shT (numB (L s)) cols n 0
 else if kd = 4 then shT (priB (L s) && decide (s.size ≤ 200)) cols n 0
 else if kd = 10 then shT (inB accs s) cols n 1
 else if kd = 11 then shT (fenB s) cols n 1
 else if kd = 9 then shT (s.toList == []) cols n 3
 else if 5 ≤ kd ∧ kd ≤ 8 then shT (s.toList == []) cols n 2
 else false
theorem nAcc_ev (s : ByteArray) : Ev (fun k => node_accent.f k s) (inB accs s) := by
 unfold node_accent.f
 exact ev_bind (Contains_ev accs s (by decide)) (Ev.now _)
theorem nPri_ev (s : ByteArray) (hs : s.size ≤ M) : Ev (fun k => node_printable.f k s) (priB (L s) && decide (s.size ≤ 200)) := by
 have := nPri_l s hs s.size 0 rfl
 simpa [node_printable.f] using this
theorem shape_ev (kd : Int) (s : ByteArray) (cols : Int) (n : Nat) (hs : s.size ≤ M) : Ev (fun k => shapeF k kd s cols n) (shp kd s cols n) := by
 unfold shapeF shp
 by_cases h1 : kd = 1
 ·
  simp only [h1, if_true]; exact Ev.now _
 by_cases h12 : kd = 12
 ·
  simp only [h1, h12, if_true, if_false]; exact Ev.now _
 by_cases h2 : kd = 2
 ·
  simp only [h1, h12, h2, if_true, if_false]; exact ev_bind (nSym_ev s hs) (Ev.now _)
 by_cases h3 : kd = 3
 ·
  simp only [h1, h12, h2, h3, if_true, if_false]; exact ev_bind (ev_some (nNum_eq s hs)) (Ev.now _)
 by_cases h4 : kd = 4
 ·
  simp only [h1, h12, h2, h3, h4, if_true, if_false]; exact ev_bind (nPri_ev s hs) (Ev.now _)
 by_cases h10 : kd = 10
 ·
  simp only [h1, h12, h2, h3, h4, h10, if_true, if_false]; exact ev_bind (nAcc_ev s) (Ev.now _)
 by_cases h11 : kd = 11
 ·
  simp only [h1, h12, h2, h3, h4, h10, h11, if_true, if_false]; exact ev_bind (ev_some (nFen_eq s)) (Ev.now _)
 simp only [h1, h12, h2, h3, h4, h10, h11, if_false]
 by_cases h9 : kd = 9
 ·
  simp only [h9, if_true]; exact Ev.now _
 simp only [h9, if_false]
 by_cases h5 : 5 ≤ kd ∧ kd ≤ 8
 ·
  simp only [h5, and_self, if_true]; exact Ev.now _
 ·
  simp only [h5, if_false]; exact Ev.now _
def textB (kd : Int) (s : ByteArray) : Bool :=
 if kd = 2 then symB s else if kd = 3 then numB (L s) else if kd = 4 then decide (s.size ≤ 200) && priB (L s)
 else if kd = 10 then inB accs s else if kd = 11 then fenB s else s.toList == []
def kidsB (kd cols : Int) (n : Nat) : Bool :=
 if kd = 12 then decide (1 ≤ cols) && decide (cols ≤ 16) && decide (1 ≤ n) && decide (n ≤ 256) && ((n : Int) % cols == 0)
 else decide (cols = 0) && (if kd = 1 then decide (n ≤ 200) else if kd = 2 ∨ kd = 3 ∨ kd = 4 then n == 0 else if 5 ≤ kd ∧ kd ≤ 8 then n == 2 else if kd = 9 then n == 3 else if kd = 10 ∨ kd = 11 then n == 1 else false)
theorem text_ev (kd : Int) (s : ByteArray) (cols : Int) (l : List S36) (hs : s.size ≤ M) : Ev (fun k => vinculumref09_text.f k kd s cols l) (textB kd s) := by
 unfold vinculumref09_text.f textB
 refine ev_if (fun h => ?_) fun h => ?_
 ·
  rw [if_pos h]; exact ev_bind (rSym_ev s hs) (Ev.now _)
 rw [if_neg h]
 refine ev_if (fun h => ?_) fun h => ?_
 ·
  rw [if_pos h]; exact ev_bind (rNum_ev s hs) (Ev.now _)
 rw [if_neg h]
 refine ev_if (fun h => ?_) fun h => ?_
 ·
  rw [if_pos h]
  refine ev_if (fun h2 => ?_) fun h2 => ev_now ?_
  ·
   rw [decide_eq_true (show s.size ≤ 200 by omega), Bool.true_and]
   have := rPri_l s hs s.size 0 rfl
   exact ev_bind (by simpa [vinculumref09_Printable.f] using this) (Ev.now _)
  ·
   rw [decide_eq_false (show ¬ s.size ≤ 200 by omega)]; rfl
 rw [if_neg h]
 refine ev_if (fun h => ?_) fun h => ?_
 ·
  rw [if_pos h]
  refine ev_bind (ev_some (show vinculumref09_Accents.f = some accs from rfl)) ?_
  exact ev_bind (In_ev accs s (by decide)) (Ev.now _)
 rw [if_neg h]
 refine ev_if (fun h => ?_) fun h => ?_
 ·
  rw [if_pos h]
  unfold fenB
  refine ev_if (fun h2 => ?_) fun h2 => ev_now ?_
  ·
   refine ev_if (fun _ => ?_) fun h => by omega
   rw [decide_eq_true (show s.size = 2 by omega), Bool.true_and]
   refine ev_bind (has_ev dlm (bt s 0) (by decide)) ?_
   refine ev_if (fun h3 => ?_) fun h3 => ev_now ?_
   ·
    refine ev_if (fun _ => ?_) fun h => by omega
    rw [h3, Bool.true_and]
    exact ev_bind (has_ev dlm (bt s 1) (by decide)) (Ev.now _)
   ·
    rw [Bool.not_eq_true] at h3; rw [h3]; rfl
  ·
   rw [decide_eq_false (show ¬ s.size = 2 by omega)]; rfl
 ·
  rw [if_neg h]; exact Ev.now _
theorem k0_ev (x kd : Int) (b : Bool) : Ev (fun k => vinculumref09_kids.j1 k x kd b) (if b = true then x == 2 else if kd = 9 then x == 3 else if kd = 10 then x == 1 else if kd = 11 then x == 1 else false) := by
 refine Ev.step (fun k => by rw [vinculumref09_kids.j1]) ?_
 refine ev_if (fun h => ev_now ?_) fun h => ?_
 ·
  rw [if_pos h]
 rw [if_neg h]
 refine ev_if (fun h => ev_now ?_) fun h => ?_
 ·
  rw [if_pos h]
 rw [if_neg h]
 refine ev_if (fun h => ev_now ?_) fun h => ?_
 ·
  rw [if_pos h]
 rw [if_neg h]
 refine ev_if (fun h => ev_now ?_) fun h => ev_now ?_
 ·
  rw [if_pos h]
 ·
  rw [if_neg h]
theorem kj0_ev (x kd : Int) (b : Bool) : Ev (fun k => vinculumref09_kids.j0 k x kd b) (if b = true then x == 0 else if 5 ≤ kd ∧ kd ≤ 8 then x == 2 else if kd = 9 then x == 3 else if kd = 10 then x == 1 else if kd = 11 then x == 1 else false) := by
 refine Ev.step (fun k => by rw [vinculumref09_kids.j0]) ?_
 refine ev_if (fun h => ev_now ?_) fun h => ?_
 ·
  rw [if_pos h]
 rw [if_neg h]
 refine ev_if (fun h => ?_) fun h5 => ?_
 ·
  subst h; exact k0_ev x 5 true
 refine ev_if (fun h => ?_) fun h6 => ?_
 ·
  subst h; exact k0_ev x 6 true
 refine ev_if (fun h => ?_) fun h7 => ?_
 ·
  subst h; exact k0_ev x 7 true
 by_cases h8 : kd = 8
 ·
  subst h8; exact k0_ev x 8 true
 ·
  rw [if_neg (by omega), beq_eq_false_iff_ne.2 h8]
  exact k0_ev x kd false
theorem kids_ev (kd : Int) (s : ByteArray) (cols : Int) (l : List S36) : Ev (fun k => vinculumref09_kids.f k kd s cols l) (kidsB kd cols l.length) := by
 unfold vinculumref09_kids.f kidsB
 refine ev_if (fun h => ?_) fun h12 => ?_
 ·
  rw [if_pos h]
  refine ev_if (fun h1 => ?_) fun h1 => ev_now ?_
  ·
   rw [decide_eq_true (show 1 ≤ cols by omega), Bool.true_and]
   refine ev_if (fun h2 => ?_) fun h2 => ev_now ?_
   ·
    rw [decide_eq_true h2, Bool.true_and]
    refine ev_if (fun h3 => ?_) fun h3 => ev_now ?_
    ·
     rw [decide_eq_true (show 1 ≤ l.length by omega), Bool.true_and]
     refine ev_if (fun h4 => ?_) fun h4 => ev_now ?_
     ·
      rw [decide_eq_true (show l.length ≤ 256 by omega), Bool.true_and]
      exact ev_if (fun h5 => by omega) fun _ => Ev.now _
     ·
      rw [decide_eq_false (show ¬ l.length ≤ 256 by omega)]; rfl
    ·
     rw [decide_eq_false (show ¬ 1 ≤ l.length by omega)]; rfl
   ·
    rw [decide_eq_false h2]; rfl
  ·
   rw [decide_eq_false (show ¬ 1 ≤ cols by omega)]; rfl
 rw [if_neg h12]
 refine ev_if (fun hc => ?_) fun hc => ev_now ?_
 ·
  rw [decide_eq_true hc, Bool.true_and]
  have z0 : ((l.length : Int) == 0) = (l.length == 0) := by rw [Bool.eq_iff_iff]; simp
  have z1 : ((l.length : Int) == 1) = (l.length == 1) := by rw [Bool.eq_iff_iff]; simp; omega
  have z2 : ((l.length : Int) == 2) = (l.length == 2) := by rw [Bool.eq_iff_iff]; simp; omega
  have z3 : ((l.length : Int) == 3) = (l.length == 3) := by rw [Bool.eq_iff_iff]; simp; omega
  refine ev_if (fun h => ev_now ?_) fun h1 => ?_
  ·
   rw [if_pos h, decide_eq_decide]; omega
  rw [if_neg h1]
  refine ev_if (fun h => ?_) fun h2 => ?_
  ·
   subst h; rw [if_pos (by omega)]; have := kj0_ev l.length 2 true; rw [if_pos rfl, z0] at this; exact this
  refine ev_if (fun h => ?_) fun h3 => ?_
  ·
   subst h; rw [if_pos (by omega)]; have := kj0_ev l.length 3 true; rw [if_pos rfl, z0] at this; exact this
  by_cases h4 : kd = 4
  ·
   subst h4; rw [if_pos (by omega)]; have := kj0_ev l.length 4 true; rw [if_pos rfl, z0] at this; exact this
  ·
   rw [if_neg (by omega), beq_eq_false_iff_ne.2 h4]
   have := kj0_ev l.length kd false
   rw [if_neg (by simp), z1, z2, z3] at this
   by_cases h5 : 5 ≤ kd ∧ kd ≤ 8
   ·
    rw [if_pos h5] at this ⊢; exact this
   rw [if_neg h5] at this ⊢
   by_cases h9 : kd = 9
   ·
    rw [if_pos h9] at this ⊢; exact this
   rw [if_neg h9] at this ⊢
   by_cases h10 : kd = 10
   ·
    rw [if_pos h10] at this; rw [if_pos (by omega)]; exact this
   rw [if_neg h10] at this
   by_cases h11 : kd = 11
   ·
    rw [if_pos h11] at this; rw [if_pos (by omega)]; exact this
   ·
    rw [if_neg h11] at this; rw [if_neg (by omega)]; exact this
 ·
  rw [decide_eq_false hc]; rfl
theorem shp_eq (kd : Int) (s : ByteArray) (cols : Int) (n : Nat) : (textB kd s && kidsB kd cols n) = shp kd s cols n := by
 have em : (s.toList == []) = s.toList.isEmpty := by cases s.toList <;> rfl
 have hc : decide (cols = 0) = (cols == 0) := by rw [Bool.eq_iff_iff]; simp
 unfold textB kidsB shp shR shM shT
 by_cases h1 : kd = 1
 ·
  subst h1; simp [em, hc, Bool.and_assoc]
 by_cases h12 : kd = 12
 ·
  subst h12; simp [em, hc, Bool.and_assoc]
 by_cases h2 : kd = 2
 ·
  subst h2; simp [em, hc, Bool.and_assoc]
 by_cases h3 : kd = 3
 ·
  subst h3; simp [em, hc, Bool.and_assoc]
 by_cases h4 : kd = 4
 ·
  subst h4; simp [em, hc, Bool.and_assoc, Bool.and_left_comm, Bool.and_comm]
 by_cases h10 : kd = 10
 ·
  subst h10; simp [em, hc, Bool.and_assoc]
 by_cases h11 : kd = 11
 ·
  subst h11; simp [em, hc, Bool.and_assoc]
 by_cases h9 : kd = 9
 ·
  subst h9; simp [em, hc, Bool.and_assoc]
 by_cases h5 : 5 ≤ kd ∧ kd ≤ 8
 ·
  simp [h1, h12, h2, h3, h4, h10, h11, h9, h5, em, hc, Bool.and_assoc]
 ·
  simp [h1, h12, h2, h3, h4, h10, h11, h9, h5, em, hc, Bool.and_assoc]
end Go.Proofs.YtagkhoeidjlahaaDoor.G.Pure
namespace Go.Proofs.YtagkhoeidjlahaaDoor.G.Pure
open Go.Proofs.YtagkhoeidjlahaaDoorW.PrintWords Go.RowKit
set_option linter.unusedVariables false
set_option linter.unusedSimpArgs false
mutual
def formB : S36 → Bool
 | ⟨k, s, c, l⟩ => shp k s c l.length && formL (k == 1) l
def formL (row : Bool) : List S36 → Bool
 | [] => true
 | y :: l => !((y.f0 == 1) == row) && formB y && formL row l
end
mutual
def dep : S36 → Nat
 | ⟨_, _, _, l⟩ => 1 + depL l
def depL : List S36 → Nat
 | [] => 0
 | y :: l => max (dep y) (depL l)
end
theorem formB_eq (x : S36) : formB x = (shp x.f0 x.f1 x.f2 x.f3.length && formL (x.f0 == 1) x.f3) := by cases x; simp [formB]
theorem dep_eq (x : S36) : dep x = 1 + depL x.f3 := by cases x; simp [dep]
theorem rdT_at (l : List S36) (i : Nat) (h : i < l.length) : rd_T36 l i = l[i] := by simp [rd_T36, h]
theorem ok_open {x : S36} (h : OkNode x) : x.f1.size ≤ M ∧ x.f3.length ≤ M ∧ ∀ y ∈ x.f3, OkNode y := by
 cases h with
 | mk x h0 h1 h2 hl h3 => exact ⟨h1, hl, h3⟩
theorem cnt_pos (x : S36) : 1 ≤ cnt x := by rw [cnt_eq]; omega
theorem cntL_drop {l : List S36} {i : Nat} (h : i < l.length) : cntL (l.drop i) = cnt l[i] + cntL (l.drop (i + 1)) := by
 rw [List.drop_eq_getElem_cons h, cntL]
theorem form_ev : ∀ (n : Nat) (x : S36), cnt x ≤ n → OkNode x → Ev (fun k => vinculumref09_form.f k x.f0 x.f1 x.f2 x.f3) (formB x) := by
 intro n
 induction n with
 | zero => intro x h; have := cnt_pos x; omega
 | succ n ih =>
  intro x hn hx
  obtain ⟨h1, h2, h3⟩ := ok_open hx
  unfold M at h2
  rw [cnt_eq] at hn
  have loop : ∀ (m i : Nat), x.f3.length - i = m → cntL (x.f3.drop i) ≤ n → Ev (fun k => vinculumref09_form.l0 k i x.f0 x.f1 x.f2 x.f3) (formL (x.f0 == 1) (x.f3.drop i)) := by
   intro m
   induction m with
   | zero =>
    intro i hi _
    refine Ev.step (fun k => by rw [vinculumref09_form.l0]) ?_
    refine ev_if (fun h => by omega) fun _ => ev_now ?_
    rw [List.drop_eq_nil_of_le (by omega), formL]
   | succ m ihm =>
    intro i hi hc
    have hil : i < x.f3.length := by omega
    rw [cntL_drop hil] at hc
    refine Ev.step (fun k => by rw [vinculumref09_form.l0]) ?_
    refine ev_if (fun _ => ?_) fun h => by omega
    refine ev_if (fun _ => ?_) fun h => by omega
    rw [List.drop_eq_getElem_cons hil, formL, rdT_at _ _ hil]
    refine ev_if (fun h => ev_now ?_) fun h => ?_
    ·
     rw [h]; rfl
    ·
     rw [Bool.not_eq_true] at h
     rw [h]
     refine ev_bind (ih x.f3[i] (by omega) (h3 _ (List.getElem_mem hil))) ?_
     refine ev_if (fun h4 => ?_) fun h4 => ev_now ?_
     ·
      rw [h4, wr (n := (i : Int) + 1) (by omega)]
      have := ihm (i + 1) (by omega) (by omega)
      simpa using this
     ·
      rw [Bool.not_eq_true] at h4; rw [h4]; rfl
  refine Ev.step (fun k => by rw [vinculumref09_form.f]) ?_
  rw [formB_eq, ← shp_eq]
  have j0t : Ev (fun k => vinculumref09_form.j0 k true x.f0 x.f1 x.f2 x.f3) false := Ev.step (fun k => by rw [vinculumref09_form.j0]) (ev_if (fun _ => ev_now rfl) fun h => absurd rfl h)
  refine ev_bind (text_ev x.f0 x.f1 x.f2 x.f3 h1) ?_
  refine ev_if (fun h => ?_) fun h => ?_
  ·
   rw [h, Bool.true_and]
   refine ev_bind (kids_ev x.f0 x.f1 x.f2 x.f3) ?_
   cases hk : kidsB x.f0 x.f2 x.f3.length with
   | false => simpa using j0t
   | true =>
    refine Ev.step (fun k => by rw [vinculumref09_form.j0]) ?_
    refine ev_if (fun h => by cases h) fun _ => ?_
    have := loop x.f3.length 0 rfl (by simp; omega)
    simpa using this
  ·
   rw [Bool.not_eq_true] at h; rw [h]; simpa using j0t
theorem count_ev : ∀ (n : Nat) (x : S36), cnt x ≤ n → n ≤ 1000000 → OkNode x → Ev (fun k => vinculumref09_Count.f k x.f0 x.f1 x.f2 x.f3) (cnt x : Int) := by
 intro n
 induction n with
 | zero => intro x h; have := cnt_pos x; omega
 | succ n ih =>
  intro x hn hM hx
  obtain ⟨h1, h2, h3⟩ := ok_open hx
  unfold M at h2
  rw [cnt_eq] at hn
  have loop : ∀ (m i : Nat) (a : Nat), x.f3.length - i = m → cntL (x.f3.drop i) ≤ n → a + cntL (x.f3.drop i) ≤ 1000000 → Ev (fun k => vinculumref09_Count.l0 k a i x.f0 x.f1 x.f2 x.f3) ((a + cntL (x.f3.drop i) : Nat) : Int) := by
   intro m
   induction m with
   | zero =>
    intro i a hi _ _
    refine Ev.step (fun k => by rw [vinculumref09_Count.l0]) ?_
    refine ev_if (fun h => by omega) fun _ => ev_now ?_
    rw [List.drop_eq_nil_of_le (by omega), cntL]; rfl
   | succ m ihm =>
    intro i a hi hc ha
    have hil : i < x.f3.length := by omega
    rw [cntL_drop hil] at hc ha ⊢
    refine Ev.step (fun k => by rw [vinculumref09_Count.l0]) ?_
    refine ev_if (fun _ => ?_) fun h => by omega
    refine ev_if (fun _ => ?_) fun h => by omega
    rw [rdT_at _ _ hil]
    refine ev_bind (ih x.f3[i] (by omega) (by omega) (h3 _ (List.getElem_mem hil))) ?_
    rw [wr (n := (i : Int) + 1) (by omega), wr (n := (a : Int) + (cnt x.f3[i] : Int)) (by omega)]
    have := ihm (i + 1) (a + cnt x.f3[i]) (by omega) (by omega) (by omega)
    rw [← Nat.add_assoc]
    exact_mod_cast this
  refine Ev.step (fun k => by rw [vinculumref09_Count.f]) ?_
  have := loop x.f3.length 0 1 rfl (by simp; omega) (by simp; omega)
  rw [cnt_eq]
  simpa using this
theorem depth_ev : ∀ (n : Nat) (x : S36), cnt x ≤ n → n ≤ 1000000 → OkNode x → Ev (fun k => vinculumref09_Depth.f k x.f0 x.f1 x.f2 x.f3) (dep x : Int) ∧ dep x ≤ cnt x := by
 intro n
 induction n with
 | zero => intro x h; have := cnt_pos x; omega
 | succ n ih =>
  intro x hn hM hx
  obtain ⟨h1, h2, h3⟩ := ok_open hx
  unfold M at h2
  rw [cnt_eq] at hn
  have loop : ∀ (m i : Nat) (a : Nat), x.f3.length - i = m → cntL (x.f3.drop i) ≤ n → a ≤ 1000000 → Ev (fun k => vinculumref09_Depth.l0 k a i x.f0 x.f1 x.f2 x.f3) ((max a (depL (x.f3.drop i)) + 1 : Nat) : Int) ∧ depL (x.f3.drop i) ≤ cntL (x.f3.drop i) := by
   intro m
   induction m with
   | zero =>
    intro i a hi _ ha
    rw [List.drop_eq_nil_of_le (by omega)]
    refine ⟨Ev.step (fun k => by rw [vinculumref09_Depth.l0]) ?_, by simp [depL]⟩
    refine ev_if (fun h => by omega) fun _ => ev_now ?_
    rw [wr (n := (a : Int) + 1) (by omega), depL]
    simp
   | succ m ihm =>
    intro i a hi hc ha
    have hil : i < x.f3.length := by omega
    have hd := List.drop_eq_getElem_cons hil
    rw [cntL_drop hil] at hc
    obtain ⟨e1, e2⟩ := ih x.f3[i] (by omega) (by omega) (h3 _ (List.getElem_mem hil))
    obtain ⟨f1, f2⟩ := ihm (i + 1) (max a (dep x.f3[i])) (by omega) (by omega) (by omega)
    refine ⟨Ev.step (fun k => by rw [vinculumref09_Depth.l0]) ?_, ?_⟩
    ·
     refine ev_if (fun _ => ?_) fun h => by omega
     refine ev_if (fun _ => ?_) fun h => by omega
     rw [rdT_at _ _ hil]
     refine ev_bind e1 ?_
     rw [wr (n := (i : Int) + 1) (by omega), hd, depL, ← Nat.max_assoc]
     have hm : mx (a : Int) (dep x.f3[i] : Int) = ((max a (dep x.f3[i]) : Nat) : Int) := by unfold mx; omega
     rw [hm]
     exact_mod_cast f1
    ·
     rw [cntL_drop hil, hd, depL]; omega
  obtain ⟨l1, l2⟩ := loop x.f3.length 0 0 rfl (by simp; omega) (by omega)
  refine ⟨Ev.step (fun k => by rw [vinculumref09_Depth.f]) ?_, ?_⟩
  ·
   rw [dep_eq, Nat.add_comm]
   simpa using l1
  ·
   rw [dep_eq, cnt_eq]
   simp only [List.drop_zero] at l2
   omega
mutual
def lft : S36 → Int → Int
 | ⟨_, _, _, l⟩, m => lftL l (m - 1)
def lftL : List S36 → Int → Int
 | [], m => m
 | y :: l, m => if m ≥ 0 then lftL l (lft y m) else m
end
theorem lft_eq (x : S36) (m : Int) : lft x m = lftL x.f3 (m - 1) := by cases x; simp [lft]
theorem lft_spec : ∀ (n : Nat) (x : S36), cnt x ≤ n → ∀ m : Int, 0 ≤ m → ((cnt x : Int) ≤ m → lft x m = m - cnt x) ∧ (¬ (cnt x : Int) ≤ m → lft x m < 0) ∧ -1 ≤ lft x m ∧ lft x m ≤ m := by
 intro n
 induction n with
 | zero => intro x h; have := cnt_pos x; omega
 | succ n ih =>
  intro x hn m hm
  rw [cnt_eq] at hn ⊢
  have loop : ∀ (l : List S36) (q : Int), cntL l ≤ n → -1 ≤ q → (((cntL l : Int) ≤ q ∧ 0 ≤ q) → lftL l q = q - cntL l) ∧ (¬ ((cntL l : Int) ≤ q ∧ 0 ≤ q) → lftL l q < 0) ∧ -1 ≤ lftL l q ∧ lftL l q ≤ q := by
   intro l
   induction l with
   | nil => intro q _ hq; simp only [lftL, cntL]; refine ⟨fun h => by simp, fun h => by simp at h; omega, hq, by omega⟩
   | cons y l ihl =>
    intro q hc hq
    rw [cntL] at hc ⊢
    rw [lftL]
    by_cases h0 : q ≥ 0
    ·
     rw [if_pos h0]
     obtain ⟨a1, a2, a3, a4⟩ := ih y (by omega) q h0
     obtain ⟨b1, b2, b3, b4⟩ := ihl (lft y q) (by omega) a3
     refine ⟨fun h => ?_, fun h => ?_, b3, by omega⟩
     ·
      have e := a1 (by omega)
      rw [b1 ⟨by omega, by omega⟩, e]; push_cast; omega
     ·
      by_cases hy : (cnt y : Int) ≤ q
      ·
       have e := a1 hy
       refine b2 fun h2 => h ⟨?_, h0⟩
       push_cast
       omega
      ·
       have := a2 hy; omega
    ·
     rw [if_neg h0]
     refine ⟨fun h => by omega, fun h => by omega, hq, by omega⟩
  rw [lft_eq]
  obtain ⟨a1, a2, a3, a4⟩ := loop x.f3 (m - 1) (by omega) (by omega)
  refine ⟨fun h => ?_, fun h => ?_, a3, by omega⟩
  ·
   rw [a1 ⟨by omega, by omega⟩]; push_cast; omega
  ·
   exact a2 fun h2 => h (by push_cast; omega)
theorem left_ev : ∀ (n : Nat) (x : S36), cnt x ≤ n → OkNode x → ∀ m : Int, 0 ≤ m → m ≤ 1000000 → Ev (fun k => vinculumref09_left.f k x.f0 x.f1 x.f2 x.f3 m) (lft x m) := by
 intro n
 induction n with
 | zero => intro x h; have := cnt_pos x; omega
 | succ n ih =>
  intro x hn hx m hm0 hm
  obtain ⟨h1, h2, h3⟩ := ok_open hx
  unfold M at h2
  rw [cnt_eq] at hn
  have loop : ∀ (q i : Nat) (a : Int), x.f3.length - i = q → cntL (x.f3.drop i) ≤ n → -1 ≤ a → a ≤ 1000000 → Ev (fun k => vinculumref09_left.l0 k a i x.f0 x.f1 x.f2 x.f3) (lftL (x.f3.drop i) a) := by
   intro q
   induction q with
   | zero =>
    intro i a hi _ _ _
    refine Ev.step (fun k => by rw [vinculumref09_left.l0]) ?_
    refine ev_if (fun h => by omega) fun _ => ev_now ?_
    rw [List.drop_eq_nil_of_le (by omega), lftL]
   | succ q ihq =>
    intro i a hi hc ha ha2
    have hil : i < x.f3.length := by omega
    rw [cntL_drop hil] at hc
    refine Ev.step (fun k => by rw [vinculumref09_left.l0]) ?_
    refine ev_if (fun _ => ?_) fun h => by omega
    rw [List.drop_eq_getElem_cons hil, lftL]
    refine ev_if (fun h => ?_) fun h => ev_now ?_
    ·
     refine ev_if (fun _ => ?_) fun h => by omega
     rw [if_pos h, rdT_at _ _ hil]
     refine ev_bind (ih x.f3[i] (by omega) (h3 _ (List.getElem_mem hil)) a h ha2) ?_
     rw [wr (n := (i : Int) + 1) (by omega)]
     obtain ⟨_, _, s3, s4⟩ := lft_spec n x.f3[i] (by omega) a h
     have := ihq (i + 1) (lft x.f3[i] a) (by omega) (by omega) s3 (by omega)
     exact_mod_cast this
    ·
     rw [if_neg h]
  refine Ev.step (fun k => by rw [vinculumref09_left.f]) ?_
  rw [lft_eq, wr (n := m - 1) (by omega)]
  have := loop x.f3.length 0 (m - 1) rfl (by simp; omega) (by omega) (by omega)
  simpa using this
theorem few_ev (x : S36) (hx : OkNode x) (m : Int) (h0 : 0 ≤ m) (h1 : m ≤ 1000000) : Ev (fun k => vinculumref09_Few.f k x.f0 x.f1 x.f2 x.f3 m) (decide ((cnt x : Int) ≤ m)) := by
 unfold vinculumref09_Few.f
 refine ev_bind (left_ev (cnt x) x (Nat.le_refl _) hx m h0 h1) (ev_now ?_)
 obtain ⟨a1, a2, _, _⟩ := lft_spec (cnt x) x (Nat.le_refl _) m h0
 rw [decide_eq_decide]
 by_cases h : (cnt x : Int) ≤ m
 ·
  rw [a1 h]; omega
 ·
  have := a2 h; omega
def validB (x : S36) : Bool := x.f0 == 1 && formB x && decide (cnt x ≤ 1000) && decide (dep x ≤ 24)
theorem rValid_ev (x : S36) (hx : OkNode x) (hc : cnt x ≤ 1000000) : Ev (fun k => vinculumref09_Valid.f k x.f0 x.f1 x.f2 x.f3) (validB x) := by
 unfold vinculumref09_Valid.f validB
 refine ev_if (fun h => ?_) fun h => ev_now ?_
 ·
  rw [h]
  refine ev_bind (by have := form_ev (cnt x) x (Nat.le_refl _) hx; rw [h] at this; exact this) ?_
  refine ev_if (fun h2 => ?_) fun h2 => ev_now ?_
  ·
   rw [h2]
   refine ev_bind (by have := count_ev (cnt x) x (Nat.le_refl _) hc hx; rw [h] at this; exact this) ?_
   refine ev_if (fun h3 => ?_) fun h3 => ev_now ?_
   ·
    rw [decide_eq_true (show cnt x ≤ 1000 by omega)]
    refine ev_bind (by have := (depth_ev (cnt x) x (Nat.le_refl _) hc hx).1; rw [h] at this; exact this) (ev_now ?_)
    have e : decide ((dep x : Int) ≤ 24) = decide (dep x ≤ 24) := by rw [decide_eq_decide]; omega
    rw [e]; simp
   ·
    rw [decide_eq_false (show ¬ cnt x ≤ 1000 by omega)]; simp
  ·
   rw [Bool.not_eq_true] at h2; rw [h2]; simp
 ·
  rw [beq_eq_false_iff_ne.2 h]; rfl
theorem chk_ev : ∀ (d : Nat) (x : S36) (l : Int), OkNode x → 0 ≤ l → l ≤ 1000000 → ∃ r, Ev (fun k => chk k d l x) r ∧ (r.1 = true → formB x = true ∧ (cnt x : Int) ≤ l ∧ dep x ≤ d ∧ r.2 = l - cnt x) ∧ (formB x = true ∧ (cnt x : Int) ≤ l ∧ dep x ≤ d → r.1 = true) := by
 intro d
 induction d with
 | zero =>
  intro x l hx h0 h1
  refine ⟨(false, l - 1), Ev.now _, fun h => by simp at h, fun h => ?_⟩
  have := dep_eq x
  omega
 | succ d ih =>
  intro x l hx h0 h1
  obtain ⟨o1, o2, o3⟩ := ok_open hx
  have loop : ∀ (ys : List S36) (q : Int), (∀ y ∈ ys, OkNode y) → 0 ≤ q → q ≤ 1000000 → ∃ r, Ev (fun k => chkL (chk k d) (x.f0 == 1) ys q) r ∧ (r.1 = true → formL (x.f0 == 1) ys = true ∧ (cntL ys : Int) ≤ q ∧ depL ys ≤ d ∧ r.2 = q - cntL ys) ∧ (formL (x.f0 == 1) ys = true ∧ (cntL ys : Int) ≤ q ∧ depL ys ≤ d → r.1 = true) := by
   intro ys
   induction ys with
   | nil =>
    intro q _ hq hq1
    refine ⟨(true, q), ?_, fun _ => ⟨rfl, by simp [cntL]; omega, by simp [depL], by simp [cntL]⟩, fun _ => rfl⟩
    simp only [chkL]; exact Ev.now _
   | cons y ys ihy =>
    intro q hy hq hq1
    simp only [chkL, formL, cntL, depL]
    by_cases hr : (y.f0 == 1) == (x.f0 == 1)
    ·
     refine ⟨(false, q), ?_, fun h => by simp at h, fun h => ?_⟩
     ·
      simp only [hr, if_true]; exact Ev.now _
     ·
      rw [hr] at h; simp at h
    ·
     rw [Bool.not_eq_true] at hr
     simp only [hr, Bool.false_eq_true, if_false, Bool.not_false, Bool.true_and]
     obtain ⟨⟨b, q2⟩, e1, e2, e3⟩ := ih y q (hy y (by simp)) hq hq1
     cases b with
     | false =>
      refine ⟨(false, q2), ev_bind e1 (Ev.now _), fun h => by simp at h, fun h => ?_⟩
      obtain ⟨g1, g2, g3⟩ := h
      rw [Bool.and_eq_true] at g1
      have := e3 ⟨g1.1, by push_cast at g2; omega, by omega⟩
      simp at this
     | true =>
      obtain ⟨f1, f2, f3, f4⟩ := e2 rfl
      simp only at f4
      have := cnt_pos y
      obtain ⟨r, g1, g2, g3⟩ := ihy q2 (fun z hz => hy z (by simp [hz])) (by omega) (by omega)
      refine ⟨r, ev_bind e1 g1, fun h => ?_, fun h => ?_⟩
      ·
       obtain ⟨i1, i2, i3, i4⟩ := g2 h
       refine ⟨by rw [f1, i1]; rfl, by push_cast; omega, by omega, by push_cast; omega⟩
      ·
       obtain ⟨i1, i2, i3⟩ := h
       rw [Bool.and_eq_true] at i1
       exact g3 ⟨i1.2, by push_cast at i2; omega, by omega⟩
  have hcp := cnt_pos x
  simp only [chk]
  by_cases hl : l - 1 < 0
  ·
   refine ⟨(false, l - 1), by simp only [hl, if_true]; exact Ev.now _, fun h => by simp at h, fun h => by omega⟩
  ·
   simp only [hl, if_false]
   rw [formB_eq, cnt_eq, dep_eq]
   have hs := shape_ev x.f0 x.f1 x.f2 x.f3.length o1
   cases hsh : shp x.f0 x.f1 x.f2 x.f3.length with
   | false =>
    rw [hsh] at hs
    refine ⟨(false, l - 1), ev_bind hs (Ev.now _), fun h => by simp at h, fun h => by simp at h⟩
   | true =>
    rw [hsh] at hs
    obtain ⟨r, g1, g2, g3⟩ := loop x.f3 (l - 1) o3 (by omega) (by omega)
    refine ⟨r, ev_bind hs g1, fun h => ?_, fun h => ?_⟩
    ·
     obtain ⟨i1, i2, i3, i4⟩ := g2 h
     refine ⟨by rw [i1]; rfl, by push_cast; omega, by omega, by push_cast; omega⟩
    ·
     obtain ⟨i1, i2, i3⟩ := h
     rw [Bool.true_and] at i1
     exact g3 ⟨i1, by push_cast at i2; omega, by omega⟩
theorem node_eta (x : S36) : (⟨x.f0, x.f1, x.f2, x.f3⟩ : S36) = x := by cases x; rfl
theorem nValid_ev (x : S36) (hx : OkNode x) : Ev (fun k => node_Valid.f k x.f0 x.f1 x.f2 x.f3) (validB x) := by
 unfold node_Valid.f validB
 simp only [node_eta]
 refine ev_if (fun h => ?_) fun h => ev_now ?_
 ·
  obtain ⟨r, e1, e2, e3⟩ := chk_ev 24 x 1000 hx (by omega) (by omega)
  refine ev_bind (f := fun _ r => some r.1) e1 (ev_now ?_)
  rw [h]
  rw [Bool.eq_iff_iff]
  simp only [beq_self_eq_true, Bool.true_and, Bool.and_eq_true, decide_eq_true_eq]
  constructor
  ·
   intro hr; obtain ⟨i1, i2, i3, _⟩ := e2 hr; exact ⟨⟨i1, by omega⟩, i3⟩
  ·
   rintro ⟨⟨i1, i2⟩, i3⟩; exact e3 ⟨i1, by omega, i3⟩
 ·
  rw [beq_eq_false_iff_ne.2 h]; rfl
end Go.Proofs.YtagkhoeidjlahaaDoor.G.Pure
