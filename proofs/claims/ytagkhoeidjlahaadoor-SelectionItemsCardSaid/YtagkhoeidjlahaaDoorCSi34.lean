-- Written by pack2.py, a program of this session: this session's texts and those that the kit's printer wrote for this claim, pruned to what the claims use.
import Derived.Test.YtagkhoeidjlahaaDoorCSi2
import Derived.StillTailTactics
import Derived.Test.YtagkhoeidjlahaaDoorCSi17
namespace Go.Proofs.YtagkhoeidjlahaaDoor.G
open Go.RowKit Go.Proofs.YtagkhoeidjlahaaDoorW.PrintWords Go.Proofs.YtagkhoeidjlahaaDoorW.PrintLast Go.Proofs.YtagkhoeidjlahaaDoorW.PrintMore
attribute [local go_sem] max2_int min2_int max_two min_two max_three min_three max_four min_four
set_option linter.unusedVariables false
set_option linter.unusedSimpArgs false
section fnd
def fnd : Nat → List Int → S36 → Option (S36 × Bool)
 | 0, _, _ => none
 | k + 1, p, x => if 2 ≤ p.length then (if 0 ≤ rd p 0 ∧ rd p 0 < x.f3.length then (if 0 ≤ rd p 1 ∧ rd p 1 < (rd_T36 x.f3 (rd p 0)).f3.length then fnd k (p.drop 2) (rd_T36 (rd_T36 x.f3 (rd p 0)).f3 (rd p 1)) else some (z36, false)) else some (z36, false)) else some (x, decide (p.length = 0))
theorem F_T36 {w : World} {ok : Nat → Prop} {A : Option Addr} {xs : List S36} (h : Kd.F k36 w ok A xs.length xs) (i : Int) (h0 : 0 ≤ i) (h1 : i < xs.length) : ∃ ad A3 c3, A = some ad ∧ w.cell? (ad.add (i.toNat * 4)) = some (.int .i64 (rd_T36 xs i).f0) ∧ w.cell? ⟨(ad.add (i.toNat * 4)).block, (ad.add (i.toNat * 4)).off + 1, none⟩ = some (.string (rd_T36 xs i).f1) ∧ w.cell? ⟨(ad.add (i.toNat * 4)).block, (ad.add (i.toNat * 4)).off + 2, none⟩ = some (.int .i64 (rd_T36 xs i).f2) ∧ w.cell? ⟨(ad.add (i.toNat * 4)).block, (ad.add (i.toNat * 4)).off + 3, none⟩ = some (.slice A3 (rd_T36 xs i).f3.length c3) ∧ (rd_T36 xs i).f3.length ≤ c3 ∧ Kd.F k36 w ok A3 (rd_T36 xs i).f3.length (rd_T36 xs i).f3 := by
 obtain ⟨ad, c, e, _, hK, hc0, _⟩ := Kd.F_get h z36 i h0 h1
 have hc : ∀ j u, c[j]? = some u → w.cell? (ad.add (i.toNat * 4 + j)) = some u := hc0
 obtain ⟨A3, c3, rfl, l3, g3⟩ := k36_openF hK
 exact ⟨ad, A3, c3, e, hc 0 _ rfl, by rw [← add_field _ _ 1 (by omega)]; exact hc 1 _ rfl, by rw [← add_field _ _ 2 (by omega)]; exact hc 2 _ rfl, by rw [← add_field _ _ 3 (by omega)]; exact hc 3 _ rfl, l3, g3⟩
theorem still_tail {P : Program} {id : Nat} {Q : Exit → Act → World → Prop} {a : Act} {w : World} {l : List Oper} (n : Nat) (hm : P.follows .mixedOrders = true) (hB : Region.lexTailB .any l.toArray n = true)
  (h : ∀ w1, w1 = w.drew → wpStill P l.toArray w1 (fun a' => wpList P l.toArray Q (l.drop n) a' w1) (l.take n) a) : (Code.region id l.toArray true).wp P Q a w := wp_region_still_tail n hm hB (h _ rfl)
set_option maxHeartbeats 4000000 in
set_option maxRecDepth 100000 in
theorem fnd_calls (k : Nat) (x : S36) (A : Option Addr) (c : Nat) (A1 : Option Addr) (c1 : Nat) (l1 : List Int) (y : S36) (b : Bool) (w : World) (P0 : Nat → Prop) (hr : Kd.F k36 w P0 A x.f3.length x.f3) (hc : x.f3.length ≤ c) (hr1 : Kd.C (Kd.int .i64) w A1 l1.length l1) (hc1 : l1.length ≤ c1) (h : fnd k l1 x = some (y, b)) :
  Calls Tryd.prog 106 #[.agg #[.int .i64 x.f0, .string x.f1, .int .i64 x.f2, .slice A x.f3.length c], .slice A1 l1.length c1] w fun e w' => ∃ v : Value, e = .returned (.tuple #[.agg #[.int .i64 y.f0, .string y.f1, .int .i64 y.f2, v], .bool b]) ∧ Kd.V k36 36 w' w.heap.size (fun k_ => P0 k_ ∧ k_ < w.heap.size) v y.f3 ∧ Below w.heap.size w w' := by
 have hu36 := Tryd.underlying36
 have HX0 := Aside0.mk (blk_alloc (blk_new w (.cells #[.int .i64 x.f0, .string x.f1, .int .i64 x.f2, .slice A x.f3.length c] 36)) (.cells #[.int .i64 0, .string ⟨#[]⟩, .int .i64 0, .slice none 0 0] 36))
 have Y0 := blk_new (w.alloc (.cells #[.int .i64 x.f0, .string x.f1, .int .i64 x.f2, .slice A x.f3.length c] 36)) (.cells #[.int .i64 0, .string ⟨#[]⟩, .int .i64 0, .slice none 0 0] 36)
 rw [World.size_alloc] at Y0
 have HY0 := Aside0.mk Y0
 have HB0 := Aside0.mk (below_alloc (below_alloc (Below.refl w.heap.size w) (.cells #[.int .i64 x.f0, .string x.f1, .int .i64 x.f2, .slice A x.f3.length c] 36)) (.cells #[.int .i64 0, .string ⟨#[]⟩, .int .i64 0, .slice none 0 0] 36))
 have HF := Aside0.mk (Kd.F_bound hr)
 have HP := Aside0.mk hr1
 have H := Aside0.mk h
 have hc0 := hc
 clear Y0 hr hr1 h
 go_enter Tryd.func106, Tryd.ntmps106
 go_wp2_with fail
 go_loopg [1] k (fun kq v1 wr => ∃ (p : List Int) (q : S36) (Ap : Option Addr) (cp : Nat) (Aq : Option Addr) (cq : Nat), v1 = .slice Ap p.length cp ∧ p.length ≤ cp ∧ Aside0 (fnd kq p q = some (y, b)) ∧ Aside0 (Kd.C (Kd.int .i64) w Ap p.length p) ∧ q.f3.length ≤ cq ∧ Aside0 (Kd.F k36 w (fun k_ => P0 k_ ∧ k_ < w.heap.size) Aq q.f3.length q.f3) ∧ Aside0 (Below w.heap.size w wr) ∧ Aside0 (wr.heap[w.heap.size]? = some (.cells #[.int .i64 q.f0, .string q.f1, .int .i64 q.f2, .slice Aq q.f3.length cq] 36 (0, 0))) ∧ Aside0 (wr.heap[w.heap.size + 1]? = some (.cells #[.int .i64 0, .string ⟨#[]⟩, .int .i64 0, .slice none 0 0] 36 (0, 0))))
 case atStart => exact ⟨l1, x, A1, c1, A, c, rfl, hc1, H, HP, hc0, HF, HB0, HX0, HY0⟩
 case round =>
  obtain ⟨p, q, Ap, cp, Aq, cq, rfl, hcp, HH, HPp, hcq, HQ, HB, HX, HY⟩ := hrel
  have hpm := HPp.out.2.1
  cases gk with
  | zero => exact absurd HH.out (by simp [fnd])
  | succ k1 =>
   have e1 := HH.out
   rw [fnd] at e1
   by_cases h2 : 2 ≤ p.length
   case neg =>
    have x0_ := (blk_cell HX.out 0).trans rfl
    have x1_ := (blk_cell HX.out 1).trans rfl
    have x2_ := (blk_cell HX.out 2).trans rfl
    have x3_ := (blk_cell HX.out 3).trans rfl
    have y0_ := (blk_cell HY.out 0).trans rfl
    have y1_ := (blk_cell HY.out 1).trans rfl
    have y2_ := (blk_cell HY.out 2).trans rfl
    have y3_ := (blk_cell HY.out 3).trans rfl
    have z0_ := blk_frozen HY.out 0
    have z1_ := blk_frozen HY.out 1
    have z2_ := blk_frozen HY.out 2
    have z3_ := blk_frozen HY.out 3
    rw [if_neg h2] at e1
    simp only [Option.some.injEq, Prod.mk.injEq] at e1
    obtain ⟨e2, e3⟩ := e1
    subst e2
    have d1 : decide ((2 : Int) ≤ (p.length : Int)) = false := decide_eq_false (by omega)
    obtain ⟨b2, hb2⟩ : ∃ b2, (((p.length : Nat) : Int) == 0) = b2 := ⟨_, rfl⟩
    have hbb : b = b2 := by rw [← e3, ← hb2, Bool.eq_iff_iff]; simp
    subst hbb
    clear e3
    go_wp2
    refine bodyPost_ret (results_ct rfl _ _ (w.heap.size + 1) 36 #[.int .i64 q.f0, .string q.f1, .int .i64 q.f2, .slice Aq q.f3.length cq] (0, 0) _ rfl (by refine blk_put (cs := #[.int .i64 q.f0, .string q.f1, .int .i64 q.f2, .slice none 0 0]) ?_ 3 _ rfl; refine blk_put (cs := #[.int .i64 q.f0, .string q.f1, .int .i64 0, .slice none 0 0]) ?_ 2 _ rfl; refine blk_put (cs := #[.int .i64 q.f0, .string ⟨#[]⟩, .int .i64 0, .slice none 0 0]) ?_ 1 _ rfl; refine blk_put (cs := #[.int .i64 0, .string ⟨#[]⟩, .int .i64 0, .slice none 0 0]) ?_ 0 _ rfl; exact HY.out) Tryd.underlying36 rfl (by kernel_rfl)) rfl ?_
    exact ⟨_, rfl, Kd.V_mk hcq (Kd.F_far (p := ⟨w.heap.size + 1, 3, none⟩) (Kd.F_far (p := ⟨w.heap.size + 1, 2, none⟩) (Kd.F_far (p := ⟨w.heap.size + 1, 1, none⟩) (Kd.F_far (p := ⟨w.heap.size + 1, 0, none⟩) (Kd.F_below HQ.out HB.out) (fun k hk => by have := hk.2; simp only; omega) _) (fun k hk => by have := hk.2; simp only; omega) _) (fun k hk => by have := hk.2; simp only; omega) _) (fun k hk => by have := hk.2; simp only; omega) _), below_set (below_set (below_set (below_set HB.out (by omega)) (by omega)) (by omega)) (by omega)⟩
   rw [if_pos h2] at e1
   have d1 : decide ((2 : Int) ≤ (p.length : Int)) = true := decide_eq_true (by omega)
   have g1 : (0 : Int) < (p.length : Int) := by omega
   have g2 : (1 : Int) < (p.length : Int) := by omega
   have g1n : 0 < p.length := by omega
   have g2n : 1 < p.length := by omega
   obtain ⟨ad, ea, hp0⟩ := Kd.at_int (Kd.C_below HPp.out HB.out) 0 (by omega) (by omega)
   subst ea
   replace hp0 : wr.cell? ad = some (.int .i64 (rd p 0)) := by rw [show ad.add (0 : Int).toNat = ad by cases ad; simp [Addr.add]] at hp0; exact hp0
   have x0_ := (blk_cell HX.out 0).trans rfl
   have x1_ := (blk_cell HX.out 1).trans rfl
   have x2_ := (blk_cell HX.out 2).trans rfl
   have x3_ := (blk_cell HX.out 3).trans rfl
   have y0_ := (blk_cell HY.out 0).trans rfl
   have y1_ := (blk_cell HY.out 1).trans rfl
   have y2_ := (blk_cell HY.out 2).trans rfl
   have y3_ := (blk_cell HY.out 3).trans rfl
   have z0_ := blk_frozen HY.out 0
   have z1_ := blk_frozen HY.out 1
   have z2_ := blk_frozen HY.out 2
   have z3_ := blk_frozen HY.out 3
   by_cases hg : 0 ≤ rd p 0 ∧ rd p 0 < q.f3.length
   case neg =>
    rw [if_neg hg] at e1
    simp only [Option.some.injEq, Prod.mk.injEq] at e1
    obtain ⟨rfl, rfl⟩ := e1
    by_cases hneg : rd p 0 < 0
    case' pos => have dn := decide_eq_true hneg
    case' neg =>
     have dn := decide_eq_false hneg
     have dm : decide ((q.f3.length : Int) ≤ rd p 0) = true := decide_eq_true (by omega)
    all_goals
     clear hg hneg
     go_wp2_with fail
     go_quiet (fail)
     go_wp2
     refine bodyPost_ret (results_ct rfl _ _ (w.heap.size + 1) 36 #[.int .i64 0, .string ⟨#[]⟩, .int .i64 0, .slice none 0 0] (0, 0) _ rfl (by refine blk_put (cs := #[.int .i64 0, .string ⟨#[]⟩, .int .i64 0, .slice none 0 0]) ?_ 3 _ rfl; refine blk_put (cs := #[.int .i64 0, .string ⟨#[]⟩, .int .i64 0, .slice none 0 0]) ?_ 2 _ rfl; refine blk_put (cs := #[.int .i64 0, .string ⟨#[]⟩, .int .i64 0, .slice none 0 0]) ?_ 1 _ rfl; refine blk_put (cs := #[.int .i64 0, .string ⟨#[]⟩, .int .i64 0, .slice none 0 0]) ?_ 0 _ rfl; exact blk_drewN HY.out _) Tryd.underlying36 rfl (by kernel_rfl)) rfl ?_
     exact ⟨_, rfl, Kd.V_nil _ _ _ _ _, below_set (below_set (below_set (below_set (pw_below_drewN HB.out _) (by omega)) (by omega)) (by omega)) (by omega)⟩
   rw [if_pos hg] at e1
   obtain ⟨hg1, hg2⟩ := hg
   obtain ⟨ae0, A30, c30, e_, t0, t1, t2, t3, hl0, hF0⟩ := F_T36 HQ.out (rd p 0) hg1 hg2
   subst e_
   have HE := Aside0.mk e1
   have HQ0 := Aside0.mk hF0
   clear hF0 e1
   have dn := decide_eq_false (show ¬ rd p 0 < 0 by omega)
   have dm := decide_eq_false (show ¬ (q.f3.length : Int) ≤ rd p 0 by omega)
   go_wp2_with fail
   go_quiet (fail)
   go_wp2_with fail
   refine still_tail 7 (by kernel_rfl) (by kernel_rfl) (fun wd hwd => ?_)
   have n0_ := Aside0.mk (show Below w.heap.size w wd by rw [hwd]; exact below_drew1 (pw_below_drewN HB.out nq))
   have n1_ := Aside0.mk (blk_drew (blk_drewN HX.out nq))
   have n2_ := Aside0.mk (blk_drew (blk_drewN HY.out nq))
   rw [← hwd] at n1_ n2_
   clear hwd HB HX HY x0_ x1_ x2_ x3_ y0_ y1_ y2_ y3_ z0_ z1_ z2_ z3_ hp0
   have HB := n0_
   have HX := n1_
   have HY := n2_
   clear n0_ n1_ n2_
   have x0_ := (blk_cell HX.out 0).trans rfl
   have x1_ := (blk_cell HX.out 1).trans rfl
   have x2_ := (blk_cell HX.out 2).trans rfl
   have x3_ := (blk_cell HX.out 3).trans rfl
   have z0_ := blk_frozen HX.out 0
   have z1_ := blk_frozen HX.out 1
   have z2_ := blk_frozen HX.out 2
   have z3_ := blk_frozen HX.out 3
   replace t0 := pw_cell_below HB.out t0
   replace t1 := pw_cell_below HB.out t1
   replace t2 := pw_cell_below HB.out t2
   replace t3 := pw_cell_below HB.out t3
   obtain ⟨_, e_, hp0⟩ := Kd.at_int (Kd.C_below HPp.out HB.out) 0 (by omega) (by omega)
   obtain rfl := Option.some.inj e_
   replace hp0 : wd.cell? ad = some (.int .i64 (rd p 0)) := by rw [show ad.add (0 : Int).toNat = ad by cases ad; simp [Addr.add]] at hp0; exact hp0
   simp only [List.take_succ_cons, List.take_zero, List.drop_succ_cons, List.drop_zero]
   repeat still_step
   refine wpStill_nil ?_
   go_wp2_with fail
   have n0_ := Aside0.mk (show Below w.heap.size w ((((wd.setCell ⟨w.heap.size, 0, none⟩ (.int .i64 (rd_T36 q.f3 (rd p 0)).f0)).setCell ⟨w.heap.size, 1, none⟩ (.string (rd_T36 q.f3 (rd p 0)).f1)).setCell ⟨w.heap.size, 2, none⟩ (.int .i64 (rd_T36 q.f3 (rd p 0)).f2)).setCell ⟨w.heap.size, 3, none⟩ (.slice A30 (rd_T36 q.f3 (rd p 0)).f3.length c30)) from below_set (below_set (below_set (below_set HB.out (Nat.le_refl _)) (Nat.le_refl _)) (Nat.le_refl _)) (Nat.le_refl _))
   have n1_ : Aside0 (((((wd.setCell ⟨w.heap.size, 0, none⟩ (.int .i64 (rd_T36 q.f3 (rd p 0)).f0)).setCell ⟨w.heap.size, 1, none⟩ (.string (rd_T36 q.f3 (rd p 0)).f1)).setCell ⟨w.heap.size, 2, none⟩ (.int .i64 (rd_T36 q.f3 (rd p 0)).f2)).setCell ⟨w.heap.size, 3, none⟩ (.slice A30 (rd_T36 q.f3 (rd p 0)).f3.length c30)).heap[w.heap.size]? = some (.cells #[.int .i64 (rd_T36 q.f3 (rd p 0)).f0, .string (rd_T36 q.f3 (rd p 0)).f1, .int .i64 (rd_T36 q.f3 (rd p 0)).f2, .slice A30 (rd_T36 q.f3 (rd p 0)).f3.length c30] 36 (0, 0))) := ⟨by refine blk_put (cs := #[.int .i64 (rd_T36 q.f3 (rd p 0)).f0, .string (rd_T36 q.f3 (rd p 0)).f1, .int .i64 (rd_T36 q.f3 (rd p 0)).f2, .slice (some ae0) q.f3.length cq]) ?_ 3 _ rfl; refine blk_put (cs := #[.int .i64 (rd_T36 q.f3 (rd p 0)).f0, .string (rd_T36 q.f3 (rd p 0)).f1, .int .i64 q.f2, .slice (some ae0) q.f3.length cq]) ?_ 2 _ rfl; refine blk_put (cs := #[.int .i64 (rd_T36 q.f3 (rd p 0)).f0, .string q.f1, .int .i64 q.f2, .slice (some ae0) q.f3.length cq]) ?_ 1 _ rfl; refine blk_put (cs := #[.int .i64 q.f0, .string q.f1, .int .i64 q.f2, .slice (some ae0) q.f3.length cq]) ?_ 0 _ rfl; exact HX.out⟩
   have n2_ : Aside0 (((((wd.setCell ⟨w.heap.size, 0, none⟩ (.int .i64 (rd_T36 q.f3 (rd p 0)).f0)).setCell ⟨w.heap.size, 1, none⟩ (.string (rd_T36 q.f3 (rd p 0)).f1)).setCell ⟨w.heap.size, 2, none⟩ (.int .i64 (rd_T36 q.f3 (rd p 0)).f2)).setCell ⟨w.heap.size, 3, none⟩ (.slice A30 (rd_T36 q.f3 (rd p 0)).f3.length c30)).heap[w.heap.size + 1]? = some (.cells #[.int .i64 0, .string ⟨#[]⟩, .int .i64 0, .slice none 0 0] 36 (0, 0))) := ⟨blk_far (blk_far (blk_far (blk_far HY.out (Nat.succ_ne_self _) _) (Nat.succ_ne_self _) _) (Nat.succ_ne_self _) _) (Nat.succ_ne_self _) _⟩
   clear HB HX HY x0_ x1_ x2_ x3_ z0_ z1_ z2_ z3_ t0 t1 t2 t3 dn dm hg1 hg2 hp0
   generalize ((((wd.setCell ⟨w.heap.size, 0, none⟩ (.int .i64 (rd_T36 q.f3 (rd p 0)).f0)).setCell ⟨w.heap.size, 1, none⟩ (.string (rd_T36 q.f3 (rd p 0)).f1)).setCell ⟨w.heap.size, 2, none⟩ (.int .i64 (rd_T36 q.f3 (rd p 0)).f2)).setCell ⟨w.heap.size, 3, none⟩ (.slice A30 (rd_T36 q.f3 (rd p 0)).f3.length c30)) = wr1 at n0_ n1_ n2_ ⊢
   have HB := n0_
   have HX := n1_
   have HY := n2_
   clear n0_ n1_ n2_
   have e1 := HE.out
   clear HE HQ
   obtain ⟨_, e_, hp1⟩ := Kd.at_int (Kd.C_below HPp.out HB.out) 1 (by omega) (by omega)
   obtain rfl := Option.some.inj e_
   simp only [show (1 : Int).toNat = 1 from rfl, Nat.reduceMul, Nat.reduceEqDiff, Go.Addr.add, ↓reduceIte] at hp1
   have x0_ := (blk_cell HX.out 0).trans rfl
   have x1_ := (blk_cell HX.out 1).trans rfl
   have x2_ := (blk_cell HX.out 2).trans rfl
   have x3_ := (blk_cell HX.out 3).trans rfl
   have y0_ := (blk_cell HY.out 0).trans rfl
   have y1_ := (blk_cell HY.out 1).trans rfl
   have y2_ := (blk_cell HY.out 2).trans rfl
   have y3_ := (blk_cell HY.out 3).trans rfl
   have z0_ := blk_frozen HY.out 0
   have z1_ := blk_frozen HY.out 1
   have z2_ := blk_frozen HY.out 2
   have z3_ := blk_frozen HY.out 3
   by_cases hg : 0 ≤ rd p 1 ∧ rd p 1 < (rd_T36 q.f3 (rd p 0)).f3.length
   case neg =>
    rw [if_neg hg] at e1
    simp only [Option.some.injEq, Prod.mk.injEq] at e1
    obtain ⟨rfl, rfl⟩ := e1
    by_cases hneg : rd p 1 < 0
    case' pos => have dn := decide_eq_true hneg
    case' neg =>
     have dn := decide_eq_false hneg
     have dm : decide (((rd_T36 q.f3 (rd p 0)).f3.length : Int) ≤ rd p 1) = true := decide_eq_true (by omega)
    all_goals
     clear hg hneg
     go_wp2_with fail
     go_quiet (fail)
     go_wp2
     refine bodyPost_ret (results_ct rfl _ _ (w.heap.size + 1) 36 #[.int .i64 0, .string ⟨#[]⟩, .int .i64 0, .slice none 0 0] (0, 0) _ rfl (by refine blk_put (cs := #[.int .i64 0, .string ⟨#[]⟩, .int .i64 0, .slice none 0 0]) ?_ 3 _ rfl; refine blk_put (cs := #[.int .i64 0, .string ⟨#[]⟩, .int .i64 0, .slice none 0 0]) ?_ 2 _ rfl; refine blk_put (cs := #[.int .i64 0, .string ⟨#[]⟩, .int .i64 0, .slice none 0 0]) ?_ 1 _ rfl; refine blk_put (cs := #[.int .i64 0, .string ⟨#[]⟩, .int .i64 0, .slice none 0 0]) ?_ 0 _ rfl; exact blk_drewN HY.out _) Tryd.underlying36 rfl (by kernel_rfl)) rfl ?_
     exact ⟨_, rfl, Kd.V_nil _ _ _ _ _, below_set (below_set (below_set (below_set (pw_below_drewN HB.out _) (by omega)) (by omega)) (by omega)) (by omega)⟩
   rw [if_pos hg] at e1
   obtain ⟨hg1, hg2⟩ := hg
   obtain ⟨ae1, A31, c31, e_, t0, t1, t2, t3, hl1, hF1⟩ := F_T36 HQ0.out (rd p 1) hg1 hg2
   subst e_
   have HE := Aside0.mk e1
   have HQ1 := Aside0.mk hF1
   clear hF1 e1
   have dn := decide_eq_false (show ¬ rd p 1 < 0 by omega)
   have dm := decide_eq_false (show ¬ ((rd_T36 q.f3 (rd p 0)).f3.length : Int) ≤ rd p 1 by omega)
   go_wp2_with fail
   go_quiet (fail)
   go_wp2_with fail
   refine still_tail 7 (by kernel_rfl) (by kernel_rfl) (fun wd hwd => ?_)
   have n0_ := Aside0.mk (show Below w.heap.size w wd by rw [hwd]; exact below_drew1 (pw_below_drewN HB.out nq))
   have n1_ := Aside0.mk (blk_drew (blk_drewN HX.out nq))
   have n2_ := Aside0.mk (blk_drew (blk_drewN HY.out nq))
   rw [← hwd] at n1_ n2_
   clear hwd HB HX HY x0_ x1_ x2_ x3_ y0_ y1_ y2_ y3_ z0_ z1_ z2_ z3_ hp1
   have HB := n0_
   have HX := n1_
   have HY := n2_
   clear n0_ n1_ n2_
   have x0_ := (blk_cell HX.out 0).trans rfl
   have x1_ := (blk_cell HX.out 1).trans rfl
   have x2_ := (blk_cell HX.out 2).trans rfl
   have x3_ := (blk_cell HX.out 3).trans rfl
   have z0_ := blk_frozen HX.out 0
   have z1_ := blk_frozen HX.out 1
   have z2_ := blk_frozen HX.out 2
   have z3_ := blk_frozen HX.out 3
   replace t0 := pw_cell_below HB.out t0
   replace t1 := pw_cell_below HB.out t1
   replace t2 := pw_cell_below HB.out t2
   replace t3 := pw_cell_below HB.out t3
   obtain ⟨_, e_, hp1⟩ := Kd.at_int (Kd.C_below HPp.out HB.out) 1 (by omega) (by omega)
   obtain rfl := Option.some.inj e_
   simp only [show (1 : Int).toNat = 1 from rfl, Nat.reduceMul, Nat.reduceEqDiff, Go.Addr.add, ↓reduceIte] at hp1
   simp only [List.take_succ_cons, List.take_zero, List.drop_succ_cons, List.drop_zero]
   repeat still_step
   refine wpStill_nil ?_
   have HD := Aside0.mk (Kd.C_drop HPp.out (show 2 ≤ p.length by omega) hcp)
   go_wp2_with fail
   all_goals
    have n0_ := Aside0.mk (show Below w.heap.size w ((((wd.setCell ⟨w.heap.size, 0, none⟩ (.int .i64 (rd_T36 (rd_T36 q.f3 (rd p 0)).f3 (rd p 1)).f0)).setCell ⟨w.heap.size, 1, none⟩ (.string (rd_T36 (rd_T36 q.f3 (rd p 0)).f3 (rd p 1)).f1)).setCell ⟨w.heap.size, 2, none⟩ (.int .i64 (rd_T36 (rd_T36 q.f3 (rd p 0)).f3 (rd p 1)).f2)).setCell ⟨w.heap.size, 3, none⟩ (.slice A31 (rd_T36 (rd_T36 q.f3 (rd p 0)).f3 (rd p 1)).f3.length c31)) from below_set (below_set (below_set (below_set HB.out (Nat.le_refl _)) (Nat.le_refl _)) (Nat.le_refl _)) (Nat.le_refl _))
    have n1_ : Aside0 (((((wd.setCell ⟨w.heap.size, 0, none⟩ (.int .i64 (rd_T36 (rd_T36 q.f3 (rd p 0)).f3 (rd p 1)).f0)).setCell ⟨w.heap.size, 1, none⟩ (.string (rd_T36 (rd_T36 q.f3 (rd p 0)).f3 (rd p 1)).f1)).setCell ⟨w.heap.size, 2, none⟩ (.int .i64 (rd_T36 (rd_T36 q.f3 (rd p 0)).f3 (rd p 1)).f2)).setCell ⟨w.heap.size, 3, none⟩ (.slice A31 (rd_T36 (rd_T36 q.f3 (rd p 0)).f3 (rd p 1)).f3.length c31)).heap[w.heap.size]? = some (.cells #[.int .i64 (rd_T36 (rd_T36 q.f3 (rd p 0)).f3 (rd p 1)).f0, .string (rd_T36 (rd_T36 q.f3 (rd p 0)).f3 (rd p 1)).f1, .int .i64 (rd_T36 (rd_T36 q.f3 (rd p 0)).f3 (rd p 1)).f2, .slice A31 (rd_T36 (rd_T36 q.f3 (rd p 0)).f3 (rd p 1)).f3.length c31] 36 (0, 0))) := ⟨by refine blk_put (cs := #[.int .i64 (rd_T36 (rd_T36 q.f3 (rd p 0)).f3 (rd p 1)).f0, .string (rd_T36 (rd_T36 q.f3 (rd p 0)).f3 (rd p 1)).f1, .int .i64 (rd_T36 (rd_T36 q.f3 (rd p 0)).f3 (rd p 1)).f2, .slice (some ae1) (rd_T36 q.f3 (rd p 0)).f3.length c30]) ?_ 3 _ rfl; refine blk_put (cs := #[.int .i64 (rd_T36 (rd_T36 q.f3 (rd p 0)).f3 (rd p 1)).f0, .string (rd_T36 (rd_T36 q.f3 (rd p 0)).f3 (rd p 1)).f1, .int .i64 (rd_T36 q.f3 (rd p 0)).f2, .slice (some ae1) (rd_T36 q.f3 (rd p 0)).f3.length c30]) ?_ 2 _ rfl; refine blk_put (cs := #[.int .i64 (rd_T36 (rd_T36 q.f3 (rd p 0)).f3 (rd p 1)).f0, .string (rd_T36 q.f3 (rd p 0)).f1, .int .i64 (rd_T36 q.f3 (rd p 0)).f2, .slice (some ae1) (rd_T36 q.f3 (rd p 0)).f3.length c30]) ?_ 1 _ rfl; refine blk_put (cs := #[.int .i64 (rd_T36 q.f3 (rd p 0)).f0, .string (rd_T36 q.f3 (rd p 0)).f1, .int .i64 (rd_T36 q.f3 (rd p 0)).f2, .slice (some ae1) (rd_T36 q.f3 (rd p 0)).f3.length c30]) ?_ 0 _ rfl; exact HX.out⟩
    have n2_ : Aside0 (((((wd.setCell ⟨w.heap.size, 0, none⟩ (.int .i64 (rd_T36 (rd_T36 q.f3 (rd p 0)).f3 (rd p 1)).f0)).setCell ⟨w.heap.size, 1, none⟩ (.string (rd_T36 (rd_T36 q.f3 (rd p 0)).f3 (rd p 1)).f1)).setCell ⟨w.heap.size, 2, none⟩ (.int .i64 (rd_T36 (rd_T36 q.f3 (rd p 0)).f3 (rd p 1)).f2)).setCell ⟨w.heap.size, 3, none⟩ (.slice A31 (rd_T36 (rd_T36 q.f3 (rd p 0)).f3 (rd p 1)).f3.length c31)).heap[w.heap.size + 1]? = some (.cells #[.int .i64 0, .string ⟨#[]⟩, .int .i64 0, .slice none 0 0] 36 (0, 0))) := ⟨blk_far (blk_far (blk_far (blk_far HY.out (Nat.succ_ne_self _) _) (Nat.succ_ne_self _) _) (Nat.succ_ne_self _) _) (Nat.succ_ne_self _) _⟩
    clear HB HX HY x0_ x1_ x2_ x3_ z0_ z1_ z2_ z3_ t0 t1 t2 t3 dn dm hg1 hg2 hp1
    generalize ((((wd.setCell ⟨w.heap.size, 0, none⟩ (.int .i64 (rd_T36 (rd_T36 q.f3 (rd p 0)).f3 (rd p 1)).f0)).setCell ⟨w.heap.size, 1, none⟩ (.string (rd_T36 (rd_T36 q.f3 (rd p 0)).f3 (rd p 1)).f1)).setCell ⟨w.heap.size, 2, none⟩ (.int .i64 (rd_T36 (rd_T36 q.f3 (rd p 0)).f3 (rd p 1)).f2)).setCell ⟨w.heap.size, 3, none⟩ (.slice A31 (rd_T36 (rd_T36 q.f3 (rd p 0)).f3 (rd p 1)).f3.length c31)) = wr2 at n0_ n1_ n2_ ⊢
    have HD2 := HD.out
    first | rw [if_pos (by assumption)] at HD2 | rw [if_neg (by assumption)] at HD2
    have HD3 := Aside0.mk HD2
    clear HD HD2
    go_roundg k1
    case measure => omega
    case rel => exact ⟨p.drop 2, _, _, _, _, _, by first | (rw [List.length_drop]; done) | (rw [List.length_drop]; rfl), by rw [List.length_drop]; omega, HE, HD3, hl1, HQ1, n0_, n1_, n2_⟩
end fnd
end Go.Proofs.YtagkhoeidjlahaaDoor.G
namespace Go.Proofs.YtagkhoeidjlahaaDoor.G
open Go.RowKit Go.Proofs.YtagkhoeidjlahaaDoorW.PrintWords Go.Proofs.YtagkhoeidjlahaaDoorW.PrintLast Go.Proofs.YtagkhoeidjlahaaDoorW.PrintMore
attribute [local go_sem] max2_int min2_int max_two min_two max_three min_three max_four min_four
set_option linter.unusedVariables false
set_option linter.unusedSimpArgs false
section rrw
def rRow (k : Nat) (x : S36) (p : List Int) : Option (S36 × Int) :=
 (vinculumref09_Valid.f k x.f0 x.f1 x.f2 x.f3).bind fun t => if t = true then ((fnd k p x).bind fun y => some (if y.2 = true then (y.1, 0) else (z36, 8))) else some (z36, 1)
set_option maxHeartbeats 4000000 in
set_option maxRecDepth 100000 in
theorem rRow_calls (k : Nat) (x : S36) (A : Option Addr) (c : Nat) (A1 : Option Addr) (c1 : Nat) (l1 : List Int) (y : S36) (b : Int) (w : World) (hr : Kd.C k36 w A x.f3.length x.f3) (hc : x.f3.length ≤ c) (hr1 : Kd.C (Kd.int .i64) w A1 l1.length l1) (hc1 : l1.length ≤ c1) (h : rRow k x l1 = some (y, b)) :
  Calls Tryd.prog 84 #[.agg #[.int .i64 x.f0, .string x.f1, .int .i64 x.f2, .slice A x.f3.length c], .slice A1 l1.length c1] w fun e w' => ∃ v : Value, e = .returned (.tuple #[.agg #[.int .i64 y.f0, .string y.f1, .int .i64 y.f2, v], .int .i64 b]) ∧ Kd.V k36 36 w' w.heap.size (fun k_ => k_ < w.heap.size) v y.f3 ∧ Below w.heap.size w w' := by
 have hu36 := Tryd.underlying36
 obtain ⟨t, hV, e1⟩ := Option.bind_eq_some_iff.mp h
 have HR0 := Aside0.mk hr
 have HR1 := Aside0.mk hr1
 have HV := Aside0.mk hV
 have H := Aside0.mk e1
 clear h hr hr1 hV e1
 have HX0 := Aside0.mk (blk_alloc (blk_new w (.cells #[.int .i64 x.f0, .string x.f1, .int .i64 x.f2, .slice A x.f3.length c] 36)) (.cells #[.int .i64 0, .string ⟨#[]⟩, .int .i64 0, .slice none 0 0] 36))
 have Y0 := blk_new (w.alloc (.cells #[.int .i64 x.f0, .string x.f1, .int .i64 x.f2, .slice A x.f3.length c] 36)) (.cells #[.int .i64 0, .string ⟨#[]⟩, .int .i64 0, .slice none 0 0] 36)
 rw [World.size_alloc] at Y0
 have HY0 := Aside0.mk Y0
 have HB0 := Aside0.mk (below_alloc (below_alloc (Below.refl w.heap.size w) (.cells #[.int .i64 x.f0, .string x.f1, .int .i64 x.f2, .slice A x.f3.length c] 36)) (.cells #[.int .i64 0, .string ⟨#[]⟩, .int .i64 0, .slice none 0 0] 36))
 clear Y0
 go_enter Tryd.func84, Tryd.ntmps84
 go_wp2_with fail
 refine (vinculumref09_Valid.calls k x.f0 x.f1 x.f2 A c x.f3 t _ (Kd.C_below HR0.out HB0.out) hc HV.out).mono ?_
 rintro e w2 ⟨rfl, hb⟩
 have HX2 := Aside0.mk (blk_below HX0.out hb)
 have HY2 := Aside0.mk (blk_below HY0.out hb)
 have HB2 := Aside0.mk (below_step HB0.out hb)
 clear hb HX0 HY0 HB0 HV
 cases t with
 | false =>
  have e2 := H.out
  simp only [Bool.false_eq_true, if_false, Option.some.injEq, Prod.mk.injEq] at e2
  obtain ⟨rfl, rfl⟩ := e2
  clear H
  have y0_ := (blk_cell HY2.out 0).trans rfl
  have y1_ := (blk_cell HY2.out 1).trans rfl
  have y2_ := (blk_cell HY2.out 2).trans rfl
  have y3_ := (blk_cell HY2.out 3).trans rfl
  have z0_ := blk_frozen HY2.out 0
  have z1_ := blk_frozen HY2.out 1
  have z2_ := blk_frozen HY2.out 2
  have z3_ := blk_frozen HY2.out 3
  go_wp2
  refine bodyPost_ret (results_ct rfl _ _ (w.heap.size + 1) 36 #[.int .i64 0, .string ⟨#[]⟩, .int .i64 0, .slice none 0 0] (0, 0) _ rfl (by refine blk_put (cs := #[.int .i64 0, .string ⟨#[]⟩, .int .i64 0, .slice none 0 0]) ?_ 3 _ rfl; refine blk_put (cs := #[.int .i64 0, .string ⟨#[]⟩, .int .i64 0, .slice none 0 0]) ?_ 2 _ rfl; refine blk_put (cs := #[.int .i64 0, .string ⟨#[]⟩, .int .i64 0, .slice none 0 0]) ?_ 1 _ rfl; refine blk_put (cs := #[.int .i64 0, .string ⟨#[]⟩, .int .i64 0, .slice none 0 0]) ?_ 0 _ rfl; exact HY2.out) Tryd.underlying36 rfl (by kernel_rfl)) rfl ?_
  exact ⟨_, rfl, Kd.V_nil _ _ _ _ _, below_set (below_set (below_set (below_set HB2.out (by omega)) (by omega)) (by omega)) (by omega)⟩
 | true =>
  have e2 := H.out
  rw [if_pos rfl] at e2
  obtain ⟨⟨b1, b2⟩, hW, e3⟩ := Option.bind_eq_some_iff.mp e2
  clear e2 H
  simp only [Option.some.injEq] at e3
  have HW := Aside0.mk hW
  have H3 := Aside0.mk e3
  clear hW e3
  have q0 := (blk_cell HX2.out 0).trans rfl
  have q1 := (blk_cell HX2.out 1).trans rfl
  have q2 := (blk_cell HX2.out 2).trans rfl
  have q3 := (blk_cell HX2.out 3).trans rfl
  go_wp2_with fail
  refine (fnd_calls k x A c A1 c1 l1 b1 b2 _ (fun k_ => k_ < w.heap.size) (Kd.F_below (Kd.C_F k36_heap HR0.out) HB2.out) hc (Kd.C_below HR1.out HB2.out) hc1 HW.out).mono ?_
  rintro e w3 ⟨v3, rfl, hN, hb⟩
  obtain ⟨A3, c3, rfl⟩ := Kd.V_slice hN
  have HY3 := Aside0.mk (blk_alloc (blk_below HY2.out hb) (.cells #[.int .i64 b1.f0, .string b1.f1, .int .i64 b1.f2, .slice A3 b1.f3.length c3] 36))
  have HZ3 := Aside0.mk (blk_new w3 (.cells #[.int .i64 b1.f0, .string b1.f1, .int .i64 b1.f2, .slice A3 b1.f3.length c3] 36))
  have HB3 := Aside0.mk (below_alloc (below_step HB2.out hb) (.cells #[.int .i64 b1.f0, .string b1.f1, .int .i64 b1.f2, .slice A3 b1.f3.length c3] 36))
  have L3 := Aside0.mk (Kd.V_reads' hN).2.1
  have F3 := Aside0.mk (Kd.F_alloc (Kd.F_mono (Kd.V_F hN) (fun k hk => hk.1)) (.cells #[.int .i64 b1.f0, .string b1.f1, .int .i64 b1.f2, .slice A3 b1.f3.length c3] 36))
  clear hN hb HX2 HY2 HB2 q0 q1 q2 q3 HW
  have q0 := (blk_cell HZ3.out 0).trans rfl
  have q1 := (blk_cell HZ3.out 1).trans rfl
  have q2 := (blk_cell HZ3.out 2).trans rfl
  have q3 := (blk_cell HZ3.out 3).trans rfl
  have y0_ := (blk_cell HY3.out 0).trans rfl
  have y1_ := (blk_cell HY3.out 1).trans rfl
  have y2_ := (blk_cell HY3.out 2).trans rfl
  have y3_ := (blk_cell HY3.out 3).trans rfl
  have z0_ := blk_frozen HY3.out 0
  have z1_ := blk_frozen HY3.out 1
  have z2_ := blk_frozen HY3.out 2
  have z3_ := blk_frozen HY3.out 3
  cases b2 with
  | false =>
   have e4 := H3.out
   simp only [Bool.false_eq_true, if_false, Prod.mk.injEq] at e4
   obtain ⟨rfl, rfl⟩ := e4
   clear H3
   go_wp2
   refine bodyPost_ret (results_ct rfl _ _ (w.heap.size + 1) 36 #[.int .i64 0, .string ⟨#[]⟩, .int .i64 0, .slice none 0 0] (0, 0) _ rfl (by refine blk_put (cs := #[.int .i64 0, .string ⟨#[]⟩, .int .i64 0, .slice none 0 0]) ?_ 3 _ rfl; refine blk_put (cs := #[.int .i64 0, .string ⟨#[]⟩, .int .i64 0, .slice none 0 0]) ?_ 2 _ rfl; refine blk_put (cs := #[.int .i64 0, .string ⟨#[]⟩, .int .i64 0, .slice none 0 0]) ?_ 1 _ rfl; refine blk_put (cs := #[.int .i64 0, .string ⟨#[]⟩, .int .i64 0, .slice none 0 0]) ?_ 0 _ rfl; exact HY3.out) Tryd.underlying36 rfl (by kernel_rfl)) rfl ?_
   exact ⟨_, rfl, Kd.V_nil _ _ _ _ _, below_set (below_set (below_set (below_set HB3.out (by omega)) (by omega)) (by omega)) (by omega)⟩
  | true =>
   have e4 := H3.out
   simp only [if_true, Prod.mk.injEq] at e4
   obtain ⟨rfl, rfl⟩ := e4
   clear H3
   go_wp2
   refine bodyPost_ret (results_ct rfl _ _ (w.heap.size + 1) 36 #[.int .i64 b1.f0, .string b1.f1, .int .i64 b1.f2, .slice A3 b1.f3.length c3] (0, 0) _ rfl (by refine blk_put (cs := #[.int .i64 b1.f0, .string b1.f1, .int .i64 b1.f2, .slice none 0 0]) ?_ 3 _ rfl; refine blk_put (cs := #[.int .i64 b1.f0, .string b1.f1, .int .i64 0, .slice none 0 0]) ?_ 2 _ rfl; refine blk_put (cs := #[.int .i64 b1.f0, .string ⟨#[]⟩, .int .i64 0, .slice none 0 0]) ?_ 1 _ rfl; refine blk_put (cs := #[.int .i64 0, .string ⟨#[]⟩, .int .i64 0, .slice none 0 0]) ?_ 0 _ rfl; exact HY3.out) Tryd.underlying36 rfl (by kernel_rfl)) rfl ?_
   exact ⟨_, rfl, Kd.V_mk L3.out (Kd.F_far (p := ⟨w.heap.size + 1, 3, none⟩) (Kd.F_far (p := ⟨w.heap.size + 1, 2, none⟩) (Kd.F_far (p := ⟨w.heap.size + 1, 1, none⟩) (Kd.F_far (p := ⟨w.heap.size + 1, 0, none⟩) F3.out (fun k hk => by simp only; omega) _) (fun k hk => by simp only; omega) _) (fun k hk => by simp only; omega) _) (fun k hk => by simp only; omega) _), below_set (below_set (below_set (below_set HB3.out (by omega)) (by omega)) (by omega)) (by omega)⟩
end rrw
end Go.Proofs.YtagkhoeidjlahaaDoor.G
