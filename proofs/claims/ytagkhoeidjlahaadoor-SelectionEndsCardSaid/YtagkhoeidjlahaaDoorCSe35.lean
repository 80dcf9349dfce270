-- Written by pack2.py: this session's texts and the printer's, pruned.
import Derived.Test.YtagkhoeidjlahaaDoorCSe2
import Derived.Test.YtagkhoeidjlahaaDoorCSe34
namespace Go.Proofs.YtagkhoeidjlahaaDoor.G
open Go.RowKit Go.Proofs.YtagkhoeidjlahaaDoorW.PrintWords Go.Proofs.YtagkhoeidjlahaaDoorW.PrintLast Go.Proofs.YtagkhoeidjlahaaDoorW.PrintMore
attribute [local go_sem] max2_int min2_int max_two min_two max_three min_three max_four min_four
set_option linter.unusedVariables false
set_option linter.unusedSimpArgs false
section nrw
def nrw_T5 : Bool × List (List Nat × List Nat) := (true, [([], []), ([0], [0]), ([], []), ([1, 2], [1, 2]), ([3], [3]), ([4], [4]), ([], []), ([5, 6], [5, 6]), ([7], [7]), ([], []), ([9], [9]), ([8, 0, 1, 2, 3, 4, 5, 6, 7, 8], [8]), ([10, 11, 0, 1, 2, 3, 4, 5, 6, 7, 8, 9, 10, 11], [9, 10])])
def nrw_B5 : List Nat := [0, 1, 0, 7, 15, 31, 0, 127, 255, 0, 512, 511, 4095]
theorem nrw_tab5 : rtab .any (opsOf Tryd.f104 5) = nrw_T5 := by kernel_rfl
theorem nrw_bits5 : waitsOk nrw_T5.2 nrw_B5 = true := by kernel_rfl
set_option maxHeartbeats 4000000 in
set_option maxRecDepth 100000 in
theorem nrow_calls (k : Nat) (x : S36) (A : Option Addr) (c : Nat) (A1 : Option Addr) (c1 : Nat) (l1 : List Int) (y : S36) (b : Bool) (w : World) (P0 : Nat → Prop) (hr : Kd.F k36 w P0 A x.f3.length x.f3) (hc : x.f3.length ≤ c) (hr1 : Kd.C (Kd.int .i64) w A1 l1.length l1) (hc1 : l1.length ≤ c1) (h : fnd k l1 x = some (y, b)) :
  Calls Tryd.prog 104 #[.agg #[.int .i64 x.f0, .string x.f1, .int .i64 x.f2, .slice A x.f3.length c], .slice A1 l1.length c1] w fun e w' => ∃ v : Value, e = .returned (.tuple #[.agg #[.int .i64 y.f0, .string y.f1, .int .i64 y.f2, v], .bool b]) ∧ Kd.V k36 36 w' w.heap.size (fun k_ => P0 k_ ∧ k_ < w.heap.size) v y.f3 ∧ Below w.heap.size w w' := by
 have hu36 := Tryd.underlying36
 have HX0 := Aside0.mk (blk_alloc (blk_new w (.cells #[.int .i64 x.f0, .string x.f1, .int .i64 x.f2, .slice A x.f3.length c] 36)) (.cells #[.int .i64 0, .string ⟨#[]⟩, .int .i64 0, .slice none 0 0] 36))
 have Y0 := blk_new (w.alloc (.cells #[.int .i64 x.f0, .string x.f1, .int .i64 x.f2, .slice A x.f3.length c] 36)) (.cells #[.int .i64 0, .string ⟨#[]⟩, .int .i64 0, .slice none 0 0] 36)
 rw [World.size_alloc] at Y0
 have HY0 := Aside0.mk Y0
 have HB0 := Aside0.mk (below_alloc (below_alloc (Below.refl w.heap.size w) (.cells #[.int .i64 x.f0, .string x.f1, .int .i64 x.f2, .slice A x.f3.length c] 36)) (.cells #[.int .i64 0, .string ⟨#[]⟩, .int .i64 0, .slice none 0 0] 36))
 have HF := Aside0.mk (Kd.F_bound hr)
 have HP := Aside0.mk hr1
 have H := Aside0.mk h
 have hc0 := hc
 clear Y0 hr hr1 h
 go_enter Tryd.func104, Tryd.ntmps104
 go_wp2_with fail
 go_loopg [1] k (fun kq v1 wr => ∃ (p : List Int) (q : S36) (Ap : Option Addr) (cp : Nat) (Aq : Option Addr) (cq : Nat), v1 = .slice Ap p.length cp ∧ p.length ≤ cp ∧ Aside0 (fnd kq p q = some (y, b)) ∧ Aside0 (Kd.C (Kd.int .i64) w Ap p.length p) ∧ q.f3.length ≤ cq ∧ Aside0 (Kd.F k36 w (fun k_ => P0 k_ ∧ k_ < w.heap.size) Aq q.f3.length q.f3) ∧ Aside0 (Below w.heap.size w wr) ∧ Aside0 (wr.heap[w.heap.size]? = some (.cells #[.int .i64 q.f0, .string q.f1, .int .i64 q.f2, .slice Aq q.f3.length cq] 36 (0, 0))) ∧ Aside0 (wr.heap[w.heap.size + 1]? = some (.cells #[.int .i64 0, .string ⟨#[]⟩, .int .i64 0, .slice none 0 0] 36 (0, 0))))
 case atStart => exact ⟨l1, x, A1, c1, A, c, rfl, hc1, H, HP, hc0, HF, HB0, HX0, HY0⟩
 case round =>
  obtain ⟨p, q, Ap, cp, Aq, cq, rfl, hcp, HH, HPp, hcq, HQ, HB, HX, HY⟩ := hrel
  have hpm := HPp.out.2.1
  cases gk with
  | zero => exact absurd HH.out (by simp [fnd])
  | succ k1 =>
   have e1 := HH.out
   rw [fnd] at e1
   by_cases h2 : 2 ≤ p.length
   case neg =>
    have x0_ := (blk_cell HX.out 0).trans rfl
    have x1_ := (blk_cell HX.out 1).trans rfl
    have x2_ := (blk_cell HX.out 2).trans rfl
    have x3_ := (blk_cell HX.out 3).trans rfl
    have y0_ := (blk_cell HY.out 0).trans rfl
    have y1_ := (blk_cell HY.out 1).trans rfl
    have y2_ := (blk_cell HY.out 2).trans rfl
    have y3_ := (blk_cell HY.out 3).trans rfl
    have z0_ := blk_frozen HY.out 0
    have z1_ := blk_frozen HY.out 1
    have z2_ := blk_frozen HY.out 2
    have z3_ := blk_frozen HY.out 3
    rw [if_neg h2] at e1
    simp only [Option.some.injEq, Prod.mk.injEq] at e1
    obtain ⟨e2, e3⟩ := e1
    subst e2
    have d1 : decide ((2 : Int) ≤ (p.length : Int)) = false := decide_eq_false (by omega)
    obtain ⟨b2, hb2⟩ : ∃ b2, (((p.length : Nat) : Int) == 0) = b2 := ⟨_, rfl⟩
    have hbb : b = b2 := by rw [← e3, ← hb2, Bool.eq_iff_iff]; simp
    subst hbb
    clear e3
    go_wp2
    refine bodyPost_ret (results_ct rfl _ _ (w.heap.size + 1) 36 #[.int .i64 q.f0, .string q.f1, .int .i64 q.f2, .slice Aq q.f3.length cq] (0, 0) _ rfl (by refine blk_put (cs := #[.int .i64 q.f0, .string q.f1, .int .i64 q.f2, .slice none 0 0]) ?_ 3 _ rfl; refine blk_put (cs := #[.int .i64 q.f0, .string q.f1, .int .i64 0, .slice none 0 0]) ?_ 2 _ rfl; refine blk_put (cs := #[.int .i64 q.f0, .string ⟨#[]⟩, .int .i64 0, .slice none 0 0]) ?_ 1 _ rfl; refine blk_put (cs := #[.int .i64 0, .string ⟨#[]⟩, .int .i64 0, .slice none 0 0]) ?_ 0 _ rfl; exact HY.out) Tryd.underlying36 rfl (by kernel_rfl)) rfl ?_
    exact ⟨_, rfl, Kd.V_mk hcq (Kd.F_far (p := ⟨w.heap.size + 1, 3, none⟩) (Kd.F_far (p := ⟨w.heap.size + 1, 2, none⟩) (Kd.F_far (p := ⟨w.heap.size + 1, 1, none⟩) (Kd.F_far (p := ⟨w.heap.size + 1, 0, none⟩) (Kd.F_below HQ.out HB.out) (fun k hk => by have := hk.2; simp only; omega) _) (fun k hk => by have := hk.2; simp only; omega) _) (fun k hk => by have := hk.2; simp only; omega) _) (fun k hk => by have := hk.2; simp only; omega) _), below_set (below_set (below_set (below_set HB.out (by omega)) (by omega)) (by omega)) (by omega)⟩
   rw [if_pos h2] at e1
   have d1 : decide ((2 : Int) ≤ (p.length : Int)) = true := decide_eq_true (by omega)
   have g1 : (0 : Int) < (p.length : Int) := by omega
   have g2 : (1 : Int) < (p.length : Int) := by omega
   have g3 : (2 : Int) ≤ (p.length : Int) := by omega
   have g1n : 0 < p.length := by omega
   have g2n : 1 < p.length := by omega
   obtain ⟨ad, ea, hp0⟩ := Kd.at_int (Kd.C_below HPp.out HB.out) 0 (by omega) (by omega)
   subst ea
   replace hp0 : wr.cell? ad = some (.int .i64 (rd p 0)) := by rw [show ad.add (0 : Int).toNat = ad by cases ad; simp [Addr.add]] at hp0; exact hp0
   obtain ⟨_, e_, hp1⟩ := Kd.at_int (Kd.C_below HPp.out HB.out) 1 (by omega) (by omega)
   obtain rfl := Option.some.inj e_
   simp only [show (1 : Int).toNat = 1 from rfl, Nat.reduceMul, Nat.reduceEqDiff, Go.Addr.add, ↓reduceIte] at hp1
   have HE := Aside0.mk e1
   clear e1
   go_wp2_with fail
   go_quiet (fail)
   have n0_ := Aside0.mk (pw_below_drewN HB.out nq)
   have n1_ := Aside0.mk (blk_drewN HX.out nq)
   have n2_ := Aside0.mk (blk_drewN HY.out nq)
   clear HB HX HY hp0 hp1
   generalize wr.drewN nq = wq at n0_ n1_ n2_ ⊢
   have HB := n0_
   have HX := n1_
   have HY := n2_
   clear n0_ n1_ n2_
   have x0_ := (blk_cell HX.out 0).trans rfl
   have x1_ := (blk_cell HX.out 1).trans rfl
   have x2_ := (blk_cell HX.out 2).trans rfl
   have x3_ := (blk_cell HX.out 3).trans rfl
   have y0_ := (blk_cell HY.out 0).trans rfl
   have y1_ := (blk_cell HY.out 1).trans rfl
   have y2_ := (blk_cell HY.out 2).trans rfl
   have y3_ := (blk_cell HY.out 3).trans rfl
   have z0_ := blk_frozen HY.out 0
   have z1_ := blk_frozen HY.out 1
   have z2_ := blk_frozen HY.out 2
   have z3_ := blk_frozen HY.out 3
   have e1 := HE.out
   by_cases hg : 0 ≤ rd p 0 ∧ rd p 0 < q.f3.length
   case neg =>
    rw [if_neg hg] at e1
    simp only [Option.some.injEq, Prod.mk.injEq] at e1
    obtain ⟨rfl, rfl⟩ := e1
    by_cases hneg : rd p 0 < 0
    case' pos => have dn := decide_eq_true hneg
    case' neg =>
     have dn := decide_eq_false hneg
     have dm : decide ((q.f3.length : Int) ≤ rd p 0) = true := decide_eq_true (by omega)
    all_goals
     clear hg hneg HE
     go_wp2
     refine bodyPost_ret (results_ct rfl _ _ (w.heap.size + 1) 36 #[.int .i64 0, .string ⟨#[]⟩, .int .i64 0, .slice none 0 0] (0, 0) _ rfl (by refine blk_put (cs := #[.int .i64 0, .string ⟨#[]⟩, .int .i64 0, .slice none 0 0]) ?_ 3 _ rfl; refine blk_put (cs := #[.int .i64 0, .string ⟨#[]⟩, .int .i64 0, .slice none 0 0]) ?_ 2 _ rfl; refine blk_put (cs := #[.int .i64 0, .string ⟨#[]⟩, .int .i64 0, .slice none 0 0]) ?_ 1 _ rfl; refine blk_put (cs := #[.int .i64 0, .string ⟨#[]⟩, .int .i64 0, .slice none 0 0]) ?_ 0 _ rfl; exact HY.out) Tryd.underlying36 rfl (by kernel_rfl)) rfl ?_
     exact ⟨_, rfl, Kd.V_nil _ _ _ _ _, below_set (below_set (below_set (below_set HB.out (by omega)) (by omega)) (by omega)) (by omega)⟩
   rw [if_pos hg] at e1
   obtain ⟨hg1, hg2⟩ := hg
   obtain ⟨ae, A3, c3, e_, t0, t1, t2, t3, hl3, hF3⟩ := F_T36 HQ.out (rd p 0) hg1 hg2
   subst e_
   replace t3 := pw_cell_below HB.out t3
   have HQ0 := Aside0.mk hF3
   clear hF3 t0 t1 t2 HE
   have dn := decide_eq_false (show ¬ rd p 0 < 0 by omega)
   have dm := decide_eq_false (show ¬ (q.f3.length : Int) ≤ rd p 0 by omega)
   by_cases hh : 0 ≤ rd p 1 ∧ rd p 1 < (rd_T36 q.f3 (rd p 0)).f3.length
   case neg =>
    rw [if_neg hh] at e1
    simp only [Option.some.injEq, Prod.mk.injEq] at e1
    obtain ⟨rfl, rfl⟩ := e1
    by_cases hneg : rd p 1 < 0
    case' pos => have en := decide_eq_true hneg
    case' neg =>
     have en := decide_eq_false hneg
     have em : decide (((rd_T36 q.f3 (rd p 0)).f3.length : Int) ≤ rd p 1) = true := decide_eq_true (by omega)
    all_goals
     clear hh hneg
     go_wp2
     refine bodyPost_ret (results_ct rfl _ _ (w.heap.size + 1) 36 #[.int .i64 0, .string ⟨#[]⟩, .int .i64 0, .slice none 0 0] (0, 0) _ rfl (by refine blk_put (cs := #[.int .i64 0, .string ⟨#[]⟩, .int .i64 0, .slice none 0 0]) ?_ 3 _ rfl; refine blk_put (cs := #[.int .i64 0, .string ⟨#[]⟩, .int .i64 0, .slice none 0 0]) ?_ 2 _ rfl; refine blk_put (cs := #[.int .i64 0, .string ⟨#[]⟩, .int .i64 0, .slice none 0 0]) ?_ 1 _ rfl; refine blk_put (cs := #[.int .i64 0, .string ⟨#[]⟩, .int .i64 0, .slice none 0 0]) ?_ 0 _ rfl; exact HY.out) Tryd.underlying36 rfl (by kernel_rfl)) rfl ?_
     exact ⟨_, rfl, Kd.V_nil _ _ _ _ _, below_set (below_set (below_set (below_set HB.out (by omega)) (by omega)) (by omega)) (by omega)⟩
   rw [if_pos hh] at e1
   obtain ⟨hh1, hh2⟩ := hh
   obtain ⟨ae1, A4, c4, e_, t0, t1, t2, t4, hl4, hF4⟩ := F_T36 HQ0.out (rd p 1) hh1 hh2
   subst e_
   have HE := Aside0.mk e1
   have HQ1 := Aside0.mk hF4
   clear hF4 e1
   have en := decide_eq_false (show ¬ rd p 1 < 0 by omega)
   have em := decide_eq_false (show ¬ ((rd_T36 q.f3 (rd p 0)).f3.length : Int) ≤ rd p 1 by omega)
   go_wp2_with fail
   replace t0 := pw_cell_below HB.out t0
   replace t1 := pw_cell_below HB.out t1
   replace t2 := pw_cell_below HB.out t2
   replace t4 := pw_cell_below HB.out t4
   have HD := Aside0.mk (Kd.C_drop HPp.out (show 2 ≤ p.length by omega) hcp)
   have n0_ := Aside0.mk (below_drew1 HB.out)
   have n1_ := Aside0.mk (blk_drew HX.out)
   have n2_ := Aside0.mk (blk_drew HY.out)
   by_cases hcap : cp = 2
   all_goals
    refine start_ (n := 13) (S := fun w' => w'.cell? ⟨w.heap.size, 3, none⟩ = some (.slice (some ae) q.f3.length cq) ∧ w'.cell? ⟨(ae.add ((rd p 0).toNat * 4)).block, (ae.add ((rd p 0).toNat * 4)).off + 3, none⟩ = some (.slice (some ae1) (rd_T36 q.f3 (rd p 0)).f3.length c3) ∧ w'.cell? (ae1.add ((rd p 1).toNat * 4)) = some (.int .i64 (rd_T36 (rd_T36 q.f3 (rd p 0)).f3 (rd p 1)).f0) ∧ w'.cell? ⟨(ae1.add ((rd p 1).toNat * 4)).block, (ae1.add ((rd p 1).toNat * 4)).off + 1, none⟩ = some (.string (rd_T36 (rd_T36 q.f3 (rd p 0)).f3 (rd p 1)).f1) ∧ w'.cell? ⟨(ae1.add ((rd p 1).toNat * 4)).block, (ae1.add ((rd p 1).toNat * 4)).off + 2, none⟩ = some (.int .i64 (rd_T36 (rd_T36 q.f3 (rd p 0)).f3 (rd p 1)).f2) ∧ w'.cell? ⟨(ae1.add ((rd p 1).toNat * 4)).block, (ae1.add ((rd p 1).toNat * 4)).off + 3, none⟩ = some (.slice A4 (rd_T36 (rd_T36 q.f3 (rd p 0)).f3 (rd p 1)).f3.length c4)) (ds := [11]) #[false, false, false, false, false, false, false, false, false, false, false, false, false] (by kernel_rfl) rfl rfl ⟨x3_, t3, t0, t1, t2, t4⟩ (fun hHeld => ?_)
    refine with_tabW nrw_tab5 nrw_bits5 (fun HT_ HW_ => ?_)
    clear HB HX HY x0_ x1_ x2_ x3_ y0_ y1_ y2_ y3_ z0_ z1_ z2_ z3_ t0 t1 t2 t3 t4
    generalize wq.drew = wd at n0_ n1_ n2_ hHeld ⊢
    have HB := n0_
    have HX := n1_
    have HY := n2_
    clear n0_ n1_ n2_
    have x0_ := (blk_cell HX.out 0).trans rfl
    have x1_ := (blk_cell HX.out 1).trans rfl
    have x2_ := (blk_cell HX.out 2).trans rfl
    have x3_ := (blk_cell HX.out 3).trans rfl
    have z0_ := blk_frozen HX.out 0
    have z1_ := blk_frozen HX.out 1
    have z2_ := blk_frozen HX.out 2
    have z3_ := blk_frozen HX.out 3
    refine pure_ (i := 0) (N := some 42) (v := ?_) (a' := ?_) #[true, false, false, false, false, false, false, false, false, false, false, false, false] rfl rfl (any_of HT_.out (by kernel_rfl)) (fun _ _ _ h => h) (Or.inl ⟨by rfl, ?_⟩) ?_ ?_
    rotate_left
    ·
     intro w'; go_simp; with_reducible rfl
    rotate_left
    ·
     simp only [Act.put, List.setIfInBounds_toArray, List.set_cons_zero, List.set_cons_succ, i64_w, i32_w]; rfl
    refine pure_ (i := 2) (N := some 44) (v := ?_) (a' := ?_) #[true, false, true, false, false, false, false, false, false, false, false, false, false] rfl rfl (any_of HT_.out (by kernel_rfl)) (fun _ _ _ h => h) (Or.inl ⟨by rfl, ?_⟩) ?_ ?_
    rotate_left
    ·
     intro w'; go_simp; with_reducible rfl
    rotate_left
    ·
     simp only [Act.put, List.setIfInBounds_toArray, List.set_cons_zero, List.set_cons_succ, i64_w, i32_w]; rfl
    refine pure_ (i := 6) (N := some 48) (v := ?_) (a' := ?_) #[true, false, true, false, false, false, true, false, false, false, false, false, false] rfl rfl (any_of HT_.out (by kernel_rfl)) (fun _ _ _ h => h) (Or.inl ⟨by rfl, ?_⟩) ?_ ?_
    rotate_left
    ·
     intro w'; go_simp; with_reducible rfl
    rotate_left
    ·
     simp only [Act.put, List.setIfInBounds_toArray, List.set_cons_zero, List.set_cons_succ, i64_w, i32_w]; rfl
    refine pure_ (i := 9) (N := some 51) (v := ?_) (a' := ?_) #[true, false, true, false, false, false, true, false, false, true, false, false, false] rfl rfl (any_of HT_.out (by kernel_rfl)) (fun _ _ _ h => h) (Or.inl ⟨by rfl, ?_⟩) ?_ ?_
    rotate_left
    ·
     intro w'; go_simp; with_reducible rfl
    rotate_left
    ·
     simp only [Act.put, List.setIfInBounds_toArray, List.set_cons_zero, List.set_cons_succ, i64_w, i32_w]; rfl
    refine pure_ (i := 10) (N := some 52) (v := ?_) (a' := ?_) #[true, false, true, false, false, false, true, false, false, true, true, false, false] rfl rfl (any_of HT_.out (by kernel_rfl)) (fun _ _ _ h => h) (Or.inl ⟨by rfl, ?_⟩) ?_ ?_
    rotate_left
    ·
     intro w'; go_simp; with_reducible rfl
    rotate_left
    ·
     simp only [Act.put, List.setIfInBounds_toArray, List.set_cons_zero, List.set_cons_succ, i64_w, i32_w]; rfl
    refine take_ (i := 1) (N := some 43) (v := ?_) (a' := ?_) #[true, true, true, false, false, false, true, false, false, true, true, false, false] rfl rfl (take_ofW HT_.out HW_.out (by kernel_rfl)) (fun _ _ _ h => h) (Or.inl ⟨by rfl, ?_⟩) hHeld ?_ ?_
    rotate_left
    ·
     rintro w' ⟨s0, s1, s2, s3, s4, s5⟩; go_simp; with_reducible rfl
    rotate_left
    ·
     simp only [Act.put, List.setIfInBounds_toArray, List.set_cons_zero, List.set_cons_succ, i64_w, i32_w]; rfl
    refine pure_ (i := 3) (N := some 45) (v := ?_) (a' := ?_) #[true, true, true, true, false, false, true, false, false, true, true, false, false] rfl rfl (any_of HT_.out (by kernel_rfl)) (fun _ _ _ h => h) (Or.inl ⟨by rfl, ?_⟩) ?_ ?_
    rotate_left
    ·
     intro w'; go_simp; with_reducible rfl
    rotate_left
    ·
     simp only [Act.put, List.setIfInBounds_toArray, List.set_cons_zero, List.set_cons_succ, i64_w, i32_w]; rfl
    refine pure_ (i := 4) (N := some 46) (v := ?_) (a' := ?_) #[true, true, true, true, true, false, true, false, false, true, true, false, false] rfl rfl (any_of HT_.out (by kernel_rfl)) (fun _ _ _ h => h) (Or.inl ⟨by rfl, ?_⟩) ?_ ?_
    rotate_left
    ·
     intro w'; go_simp; with_reducible rfl
    rotate_left
    ·
     simp only [Act.put, List.setIfInBounds_toArray, List.set_cons_zero, List.set_cons_succ, i64_w, i32_w]; rfl
    refine take_ (i := 5) (N := some 47) (v := ?_) (a' := ?_) #[true, true, true, true, true, true, true, false, false, true, true, false, false] rfl rfl (take_ofW HT_.out HW_.out (by kernel_rfl)) (fun _ _ _ h => h) (Or.inl ⟨by rfl, ?_⟩) hHeld ?_ ?_
    rotate_left
    ·
     rintro w' ⟨s0, s1, s2, s3, s4, s5⟩; go_simp; with_reducible rfl
    rotate_left
    ·
     simp only [Act.put, List.setIfInBounds_toArray, List.set_cons_zero, List.set_cons_succ, i64_w, i32_w]; rfl
    refine pure_ (i := 7) (N := some 49) (v := ?_) (a' := ?_) #[true, true, true, true, true, true, true, true, false, true, true, false, false] rfl rfl (any_of HT_.out (by kernel_rfl)) (fun _ _ _ h => h) (Or.inl ⟨by rfl, ?_⟩) ?_ ?_
    rotate_left
    ·
     intro w'; go_simp; with_reducible rfl
    rotate_left
    ·
     simp only [Act.put, List.setIfInBounds_toArray, List.set_cons_zero, List.set_cons_succ, i64_w, i32_w]; rfl
    refine take_ (i := 8) (N := some 50) (v := ?_) (a' := ?_) #[true, true, true, true, true, true, true, true, true, true, true, false, false] rfl rfl (take_ofW HT_.out HW_.out (by kernel_rfl)) (fun _ _ _ h => h) (Or.inl ⟨by rfl, ?_⟩) hHeld ?_ ?_
    rotate_left
    ·
     rintro w' ⟨s0, s1, s2, s3, s4, s5⟩; go_simp; with_reducible rfl
    rotate_left
    ·
     simp only [Act.put, List.setIfInBounds_toArray, List.set_cons_zero, List.set_cons_succ, i64_w, i32_w]; rfl
    refine last_ (i := 11) (N := none) #[true, true, true, true, true, true, true, true, true, true, true, true, false] rfl rfl (one_of HT_.out (by kernel_rfl)) (by decide) (fun K hK => ?_)
    refine skip_ (w1 := ?_) (by rfl) rfl ?_ ?_
    rotate_left
    ·
     go_simp; rfl
    refine hK.out _ _ ?_
    clear hK K
    refine pure_ (i := 12) (N := some 1) (v := ?_) (a' := ?_) #[true, true, true, true, true, true, true, true, true, true, true, true, true] rfl rfl (any_of HT_.out (by kernel_rfl)) (fun _ _ _ h => h) (Or.inl ⟨by rfl, ?_⟩) ?_ ?_
    rotate_left
    ·
     intro w'; go_simp; with_reducible rfl
    rotate_left
    ·
     simp only [Act.put, List.setIfInBounds_toArray, List.set_cons_zero, List.set_cons_succ, i64_w, i32_w]; rfl
    refine done_ (done_of HT_.out (by kernel_rfl)) ?_
    try go_wp2
    have n0_ := Aside0.mk (show Below w.heap.size w ((((wd.setCell ⟨w.heap.size, 0, none⟩ (.int .i64 (rd_T36 (rd_T36 q.f3 (rd p 0)).f3 (rd p 1)).f0)).setCell ⟨w.heap.size, 1, none⟩ (.string (rd_T36 (rd_T36 q.f3 (rd p 0)).f3 (rd p 1)).f1)).setCell ⟨w.heap.size, 2, none⟩ (.int .i64 (rd_T36 (rd_T36 q.f3 (rd p 0)).f3 (rd p 1)).f2)).setCell ⟨w.heap.size, 3, none⟩ (.slice A4 (rd_T36 (rd_T36 q.f3 (rd p 0)).f3 (rd p 1)).f3.length c4)) from below_set (below_set (below_set (below_set HB.out (Nat.le_refl _)) (Nat.le_refl _)) (Nat.le_refl _)) (Nat.le_refl _))
    have n1_ : Aside0 (((((wd.setCell ⟨w.heap.size, 0, none⟩ (.int .i64 (rd_T36 (rd_T36 q.f3 (rd p 0)).f3 (rd p 1)).f0)).setCell ⟨w.heap.size, 1, none⟩ (.string (rd_T36 (rd_T36 q.f3 (rd p 0)).f3 (rd p 1)).f1)).setCell ⟨w.heap.size, 2, none⟩ (.int .i64 (rd_T36 (rd_T36 q.f3 (rd p 0)).f3 (rd p 1)).f2)).setCell ⟨w.heap.size, 3, none⟩ (.slice A4 (rd_T36 (rd_T36 q.f3 (rd p 0)).f3 (rd p 1)).f3.length c4)).heap[w.heap.size]? = some (.cells #[.int .i64 (rd_T36 (rd_T36 q.f3 (rd p 0)).f3 (rd p 1)).f0, .string (rd_T36 (rd_T36 q.f3 (rd p 0)).f3 (rd p 1)).f1, .int .i64 (rd_T36 (rd_T36 q.f3 (rd p 0)).f3 (rd p 1)).f2, .slice A4 (rd_T36 (rd_T36 q.f3 (rd p 0)).f3 (rd p 1)).f3.length c4] 36 (0, 0))) := ⟨by refine blk_put (cs := #[.int .i64 (rd_T36 (rd_T36 q.f3 (rd p 0)).f3 (rd p 1)).f0, .string (rd_T36 (rd_T36 q.f3 (rd p 0)).f3 (rd p 1)).f1, .int .i64 (rd_T36 (rd_T36 q.f3 (rd p 0)).f3 (rd p 1)).f2, .slice (some ae) q.f3.length cq]) ?_ 3 _ rfl; refine blk_put (cs := #[.int .i64 (rd_T36 (rd_T36 q.f3 (rd p 0)).f3 (rd p 1)).f0, .string (rd_T36 (rd_T36 q.f3 (rd p 0)).f3 (rd p 1)).f1, .int .i64 q.f2, .slice (some ae) q.f3.length cq]) ?_ 2 _ rfl; refine blk_put (cs := #[.int .i64 (rd_T36 (rd_T36 q.f3 (rd p 0)).f3 (rd p 1)).f0, .string q.f1, .int .i64 q.f2, .slice (some ae) q.f3.length cq]) ?_ 1 _ rfl; refine blk_put (cs := #[.int .i64 q.f0, .string q.f1, .int .i64 q.f2, .slice (some ae) q.f3.length cq]) ?_ 0 _ rfl; exact HX.out⟩
    have n2_ : Aside0 (((((wd.setCell ⟨w.heap.size, 0, none⟩ (.int .i64 (rd_T36 (rd_T36 q.f3 (rd p 0)).f3 (rd p 1)).f0)).setCell ⟨w.heap.size, 1, none⟩ (.string (rd_T36 (rd_T36 q.f3 (rd p 0)).f3 (rd p 1)).f1)).setCell ⟨w.heap.size, 2, none⟩ (.int .i64 (rd_T36 (rd_T36 q.f3 (rd p 0)).f3 (rd p 1)).f2)).setCell ⟨w.heap.size, 3, none⟩ (.slice A4 (rd_T36 (rd_T36 q.f3 (rd p 0)).f3 (rd p 1)).f3.length c4)).heap[w.heap.size + 1]? = some (.cells #[.int .i64 0, .string ⟨#[]⟩, .int .i64 0, .slice none 0 0] 36 (0, 0))) := ⟨blk_far (blk_far (blk_far (blk_far HY.out (Nat.succ_ne_self _) _) (Nat.succ_ne_self _) _) (Nat.succ_ne_self _) _) (Nat.succ_ne_self _) _⟩
    generalize ((((wd.setCell ⟨w.heap.size, 0, none⟩ (.int .i64 (rd_T36 (rd_T36 q.f3 (rd p 0)).f3 (rd p 1)).f0)).setCell ⟨w.heap.size, 1, none⟩ (.string (rd_T36 (rd_T36 q.f3 (rd p 0)).f3 (rd p 1)).f1)).setCell ⟨w.heap.size, 2, none⟩ (.int .i64 (rd_T36 (rd_T36 q.f3 (rd p 0)).f3 (rd p 1)).f2)).setCell ⟨w.heap.size, 3, none⟩ (.slice A4 (rd_T36 (rd_T36 q.f3 (rd p 0)).f3 (rd p 1)).f3.length c4)) = wr2 at n0_ n1_ n2_ ⊢
    have HD2 := HD.out
    first | rw [if_pos (by assumption)] at HD2 | rw [if_neg (by assumption)] at HD2
    have HD3 := Aside0.mk HD2
    clear HD HD2
    go_roundg k1
    case measure => omega
    case rel => exact ⟨p.drop 2, _, _, _, _, _, by first | (rw [List.length_drop]; done) | (rw [List.length_drop]; rfl), by rw [List.length_drop]; omega, HE, HD3, hl4, HQ1, n0_, n1_, n2_⟩
end nrw
end Go.Proofs.YtagkhoeidjlahaaDoor.G
