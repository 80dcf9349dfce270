-- Written by pack2.py, a program of this session: this session's texts and those that the kit's printer wrote for this claim, pruned to what the claims use.
import Derived.Test.YtagkhoeidjlahaaDoorCSb2
import Derived.Test.YtagkhoeidjlahaaDoorCSb19
import Derived.Test.YtagkhoeidjlahaaDoorCSb13
import Derived.Test.YtagkhoeidjlahaaDoorCSb23
import Derived.Deep.CutRange
namespace Go.Proofs.YtagkhoeidjlahaaDoor.G
open Go.RowKit Go.Proofs.YtagkhoeidjlahaaDoorW.PrintWords Go.Proofs.YtagkhoeidjlahaaDoorW.PrintLast Go.Proofs.YtagkhoeidjlahaaDoorW.PrintMore
attribute [local go_sem] max2_int min2_int max_two min_two max_three min_three max_four min_four
set_option linter.unusedVariables false
set_option linter.unusedSimpArgs false
section btr
def endsR (a : List Int) (i : Int) : Int × Int := if (a.length : Int) = i + 1 then (rd a i, rd a i) else (rd a i, wrap64 (rd a i + 1))
def finR (a b : List Int) (i : Int) : List Int × Int × Int × Int := (a.take i.toNat, mn (endsR a i).1 (endsR b i).1, mx (endsR a i).2 (endsR b i).2, 0)
def condR (a b : List Int) (i : Int) : Bool := decide (i + 2 < a.length) && decide (i + 2 < b.length) && decide (rd a i = rd b i) && decide (rd a (i + 1) = rd b (i + 1))
def rbl (a b : List Int) : Nat → Int → Option (List Int × Int × Int × Int)
 | 0, _ => none
 | q + 1, i => if 0 ≤ i ∧ i < a.length ∧ i < b.length ∧ a.length < 17592186044416 ∧ b.length < 17592186044416 then (if condR a b i = true then rbl a b q (i + 2) else some (finR a b i)) else none
theorem endsR_f (a : List Int) (i : Int) (h0 : 0 ≤ i) (h1 : i < a.length) (h2 : a.length < 17592186044416) : vinculumref11_ends.f a i = some (endsR a i) := by
 unfold vinculumref11_ends.f endsR
 have hw : wrap64 (i + 1) = i + 1 := by unfold wrap64; omega
 rw [hw]
 by_cases h : (a.length : Int) = i + 1
 ·
  rw [if_pos h, if_pos h0, if_pos h1, if_pos h]
 ·
  rw [if_neg h, if_pos h0, if_pos h1, if_neg h]
set_option maxHeartbeats 4000000 in
set_option maxRecDepth 100000 in
theorem rbl_walk (k : Nat) (a0_0 : Int) (a0_1 : ByteArray) (a0_2 : Int) (A0_3 : Option Addr) (c0_3 : Nat) (l0_3 : List (S36)) (A1 : Option Addr) (c1 : Nat) (l1 : List Int) (A2 : Option Addr) (c2 : Nat) (l2 : List Int) (r1 : List Int) (r2 : Int) (r3 : Int) (r4 : Int) (w : World) (hr0_3 : Kd.C k36 w A0_3 l0_3.length l0_3) (hc0_3 : l0_3.length ≤ c0_3) (hr1 : Kd.C (Kd.int .i64) w A1 l1.length l1) (hc1 : l1.length ≤ c1) (hr2 : Kd.C (Kd.int .i64) w A2 l2.length l2) (hc2 : l2.length ≤ c2)
  (hV : vinculumref09_Valid.f k a0_0 a0_1 a0_2 l0_3 = some true) (h1 : vinculumref10_Valid.f k a0_0 a0_1 a0_2 l0_3 l1 = some true) (h2 : vinculumref10_Valid.f k a0_0 a0_1 a0_2 l0_3 l2 = some true) (h : rbl l1 l2 k 0 = some (r1, r2, r3, r4)) :
  Calls Tryd.prog 48 #[.agg #[.int .i64 a0_0, .string a0_1, .int .i64 a0_2, .slice A0_3 l0_3.length c0_3], .slice A1 l1.length c1, .slice A2 l2.length c2] w fun e w' => ∃ v0_ : Value, e = .returned (.tuple #[.agg #[v0_, .int .i64 r2, .int .i64 r3], .int .i64 r4]) ∧ Kd.R (Kd.int .i64) 3 w' w.heap.size (fun _ => True) v0_ r1 ∧ Below w.heap.size w w' := by
 have hu36 := Tryd.underlying36
 have hu54 := Tryd.underlying54
 have HR0 := Aside0.mk hr0_3
 have HC0 := Aside0.mk hc0_3
 have HR1 := Aside0.mk hr1
 have HC1 := Aside0.mk hc1
 have HR2 := Aside0.mk hr2
 have HC2 := Aside0.mk hc2
 have HV := Aside0.mk hV
 have H1 := Aside0.mk h1
 have H2 := Aside0.mk h2
 have H := Aside0.mk h
 have hm1 := hr1.2.1
 have hm2 := hr2.2.1
 clear hr0_3 hc0_3 hr1 hc1 hr2 hc2 hV h1 h2 h
 go_enter Tryd.func48, Tryd.ntmps48
 have X0 := blk_alloc (blk_new w (.cells #[.int .i64 a0_0, .string a0_1, .int .i64 a0_2, .slice A0_3 l0_3.length c0_3] 36)) (.cells #[.slice none 0 0, .int .i64 0, .int .i64 0] 54)
 have Y0 := blk_new (w.alloc (.cells #[.int .i64 a0_0, .string a0_1, .int .i64 a0_2, .slice A0_3 l0_3.length c0_3] 36)) (.cells #[.slice none 0 0, .int .i64 0, .int .i64 0] 54)
 rw [World.size_alloc] at Y0
 have B0 := below_alloc (below_alloc (Below.refl w.heap.size w) (.cells #[.int .i64 a0_0, .string a0_1, .int .i64 a0_2, .slice A0_3 l0_3.length c0_3] 36)) (.cells #[.slice none 0 0, .int .i64 0, .int .i64 0] 54)
 have HX0 := Aside0.mk X0
 have HY0 := Aside0.mk Y0
 have HB0 := Aside0.mk B0
 clear X0 Y0 B0
 go_wp2_with fail
 refine (vinculumref09_Valid.calls k a0_0 a0_1 a0_2 A0_3 c0_3 l0_3 true _ (Kd.C_below HR0.out HB0.out) HC0.out HV.out).mono ?_
 rintro e w2 ⟨rfl, hb⟩
 have HX2 := Aside0.mk (blk_below HX0.out hb)
 have HY2 := Aside0.mk (blk_below HY0.out hb)
 have HB2 := Aside0.mk (below_step HB0.out hb)
 clear hb HX0 HY0 HB0
 have q0 := (blk_cell HX2.out 0).trans rfl
 have q1 := (blk_cell HX2.out 1).trans rfl
 have q2 := (blk_cell HX2.out 2).trans rfl
 have q3 := (blk_cell HX2.out 3).trans rfl
 go_wp2_with fail
 refine (vinculumref10_Valid.calls k a0_0 a0_1 a0_2 A0_3 c0_3 l0_3 A1 c1 l1 true _ (Kd.C_below HR0.out HB2.out) HC0.out (Kd.C_below HR1.out HB2.out) HC1.out H1.out).mono ?_
 rintro e w3 ⟨rfl, hb⟩
 have HX3 := Aside0.mk (blk_below HX2.out hb)
 have HY3 := Aside0.mk (blk_below HY2.out hb)
 have HB3 := Aside0.mk (below_step HB2.out hb)
 clear hb HX2 HY2 HB2 q0 q1 q2 q3
 have q0 := (blk_cell HX3.out 0).trans rfl
 have q1 := (blk_cell HX3.out 1).trans rfl
 have q2 := (blk_cell HX3.out 2).trans rfl
 have q3 := (blk_cell HX3.out 3).trans rfl
 go_wp2_with fail
 refine (vinculumref10_Valid.calls k a0_0 a0_1 a0_2 A0_3 c0_3 l0_3 A2 c2 l2 true _ (Kd.C_below HR0.out HB3.out) HC0.out (Kd.C_below HR2.out HB3.out) HC2.out H2.out).mono ?_
 rintro e w4 ⟨rfl, hb⟩
 have HY4 := Aside0.mk (blk_below HY3.out hb)
 have HB4 := Aside0.mk (below_step HB3.out hb)
 clear hb HX3 HY3 HB3 q0 q1 q2 q3
 go_wp2_with fail
 go_loopg [8] k (fun kq v8 wr => ∃ i : Int, v8 = .int .i64 i ∧ Aside0 (rbl l1 l2 kq i = some (r1, r2, r3, r4)) ∧ Aside0 (Below w.heap.size w wr) ∧ Aside0 (wr.heap[w.heap.size + 1]? = some (.cells #[.slice none 0 0, .int .i64 0, .int .i64 0] 54 (0, 0))))
 case atStart => exact ⟨0, rfl, H, HB4, HY4⟩
 case round =>
  obtain ⟨i, rfl, HA, HB, HY⟩ := hrel
  clear HY4 HB4 H
  cases gk with
  | zero => exact absurd HA.out (by simp [rbl])
  | succ k1 =>
   have h := HA.out
   clear HA
   simp only [rbl] at h
   split at h
   case isFalse => simp at h
   rename_i hg
   obtain ⟨g0, g1, g2, g3, g4⟩ := hg
   have hw2 : wrap64 (i + 2) = i + 2 := by unfold wrap64; omega
   have hw1 : wrap64 (i + 1) = i + 1 := by unfold wrap64; omega
   obtain ⟨ad1, e1, hx1⟩ := Kd.at_int (Kd.C_below HR1.out HB.out) i g0 g1
   obtain ⟨ad2, e2, hx2⟩ := Kd.at_int (Kd.C_below HR2.out HB.out) i g0 g2
   subst e1 e2
   go_upto_region 6 with fail
   go_cut [63] from 28 to 65 (fun v63 wx => v63 = .bool (condR l1 l2 i) ∧ ∃ m, wx = wr.drewN m)
   case first =>
    rename_i Jx Kx hJx hKx
    by_cases z1 : i + 2 < (l1.length : Int)
    ·
     have d1 : decide (i + 2 < (l1.length : Int)) = true := decide_eq_true z1
     by_cases z2 : i + 2 < (l2.length : Int)
     ·
      have d2 : decide (i + 2 < (l2.length : Int)) = true := decide_eq_true z2
      obtain ⟨ad3, e3, hx3⟩ := Kd.at_int (Kd.C_below HR1.out HB.out) (i + 1) (by omega) (by omega)
      obtain ⟨ad4, e4, hx4⟩ := Kd.at_int (Kd.C_below HR2.out HB.out) (i + 1) (by omega) (by omega)
      obtain rfl : ad1 = ad3 := by injection e3
      obtain rfl : ad2 = ad4 := by injection e4
      clear e3 e4
      obtain ⟨b3, hb3⟩ : ∃ b, (rd l1 i == rd l2 i) = b := ⟨_, rfl⟩
      obtain ⟨b4, hb4⟩ : ∃ b, (rd l1 (i + 1) == rd l2 (i + 1)) = b := ⟨_, rfl⟩
      have hc : condR l1 l2 i = (b3 && b4) := by
       unfold condR
       rw [d1, d2, ← hb3, ← hb4, Bool.eq_iff_iff]
       simp
      have HCc := Aside0.mk hc
      clear hc
      cases b3
      ·
       go_quiet (fail)
       simp only [Exit.then]
       refine hKx _ _ (Met.intro (hJx _ _ ?_))
       (repeat apply Exists.intro)
       exact ⟨⟨by rw [HCc.out]; rfl, _, rfl⟩, rfl⟩
      ·
       cases b4
       ·
        go_quiet (fail)
        simp only [Exit.then]
        refine hKx _ _ (Met.intro (hJx _ _ ?_))
        (repeat apply Exists.intro)
        exact ⟨⟨by rw [HCc.out]; rfl, _, rfl⟩, rfl⟩
       ·
        go_quiet (fail)
        simp only [Exit.then]
        refine hKx _ _ (Met.intro (hJx _ _ ?_))
        (repeat apply Exists.intro)
        exact ⟨⟨by rw [HCc.out]; rfl, _, rfl⟩, rfl⟩
     ·
      have d2 : decide (i + 2 < (l2.length : Int)) = false := decide_eq_false z2
      have HCc := Aside0.mk (show condR l1 l2 i = false by unfold condR; rw [d2]; simp)
      go_quiet (fail)
      simp only [Exit.then]
      go_wp2
      go_meet
      case rel => exact ⟨by rw [HCc.out], _, rfl⟩
    ·
     have d1 : decide (i + 2 < (l1.length : Int)) = false := decide_eq_false z1
     have HCc := Aside0.mk (show condR l1 l2 i = false by unfold condR; rw [d1]; simp)
     go_quiet (fail)
     simp only [Exit.then]
     go_wp2
     go_meet
     case rel => exact ⟨by rw [HCc.out], _, rfl⟩
   case rest =>
    obtain ⟨rfl, m, rfl⟩ := hcut
    have HBm := Aside0.mk (pw_below_drewN HB.out m)
    have HYm := Aside0.mk (blk_drewN HY.out m)
    clear HB HY hx1 hx2
    generalize wr.drewN m = wr1 at HBm HYm
    obtain ⟨cb, hcb⟩ : ∃ b, condR l1 l2 i = b := ⟨_, rfl⟩
    rw [hcb] at h
    cases cb with
    | true =>
     have h' := Aside0.mk (show rbl l1 l2 k1 (i + 2) = some (r1, r2, r3, r4) from h)
     have hlt : i + 2 < (l1.length : Int) := by
      unfold condR at hcb
      simp only [Bool.and_eq_true, decide_eq_true_eq] at hcb
      exact hcb.1.1.1
     rw [hcb]
     clear h hcb
     go_wp2
     go_roundg k1
     case measure => omega
     case rel => exact ⟨_, rfl, h', HBm, HYm⟩
    | false =>
     have h' := Aside0.mk (show some (finR l1 l2 i) = some (r1, r2, r3, r4) from h)
     rw [hcb]
     clear h hcb
     obtain ⟨⟨t726, t727⟩, he1⟩ : ∃ e, endsR l1 i = e := ⟨_, rfl⟩
     obtain ⟨⟨t728, t729⟩, he2⟩ : ∃ e, endsR l2 i = e := ⟨_, rfl⟩
     have A79 := Aside0.mk (show vinculumref11_ends.f l1 i = some (t726, t727) by rw [endsR_f l1 i g0 g1 g3, he1])
     have A80 := Aside0.mk (show vinculumref11_ends.f l2 i = some (t728, t729) by rw [endsR_f l2 i g0 g2 g4, he2])
     have H : some (l1.take i.toNat, mn t726 t728, mx t727 t729, (0 : Int)) = some (r1, r2, r3, r4) := by
      have e := h'.out; unfold finR at e; rw [he1, he2] at e; exact e
     clear h' he1 he2
     have g1' : i ≤ (l1.length : Int) := by omega
     have c81b1 : decide (0 ≤ i) = true := decide_eq_true g0
     have c82b0 := eq_true g1'
     have c82b1 : decide (i ≤ (l1.length : Int)) = true := decide_eq_true g1'
     have LMc := Aside0.mk (show ([] : List Int).length + (l1.take i.toNat).length < 17592186044416 by rw [List.length_take]; simp; omega)
     have LTK := Aside0.mk (show (l1.take i.toNat).length = i.toNat by rw [List.length_take]; omega)
     obtain ⟨y734, hy734⟩ : ∃ y_ : List Int, y_ = ([] ++ (l1.take i.toNat)) := ⟨_, rfl⟩
     replace H : (some (y734, mn t726 t728, mx t727 t729, (0 : Int))) = some (r1, r2, r3, r4) := by rw [hy734, List.nil_append]; exact H
     have Ny734 := Aside0.mk hy734
     clear hy734
     obtain ⟨ji84, hji84⟩ : ∃ j_ : Int, (mn t726 t728) = j_ := ⟨_, rfl⟩
     obtain ⟨ji85, hji85⟩ : ∃ j_ : Int, (mx t727 t729) = j_ := ⟨_, rfl⟩
     rw [hji84, hji85] at H
     have hji84_ : (if t728 < t726 then t728 else t726) = ji84 := hji84
     have hji85_ : (if t727 < t729 then t729 else t727) = ji85 := hji85
     simp only [Option.some.injEq, Prod.mk.injEq] at H
     obtain ⟨rfl, rfl, rfl, rfl⟩ := H
     have GE := Aside0.mk (Nat.le_succ w.heap.size)
     have HB := HBm
     have BK := HYm
     clear HBm HYm
     simp only [Nat.succ_eq_add_one] at GE
     generalize w.heap.size + 1 = gb at GE BK ⊢
     go_wp2_with (first | (go_at_call 82; (with_reducible refine (vinculumref11_ends.calls _ _ l1 i t726 t727 _ ?side1 ?side2 A79.out).mono ?_); (case side1 => repeat (first | exact (Kd.C_below HR1.out (by repeat (first | (with_reducible first | exact HB.out | apply below_alloc | apply pw_below_drewN | apply below_drew1 | refine below_set ?_ GE.out) | exact HB.out))) | (with_reducible refine Kd.C_alloc ?_ _) | (with_reducible refine Kd.C_drewN ?_ _) | (with_reducible refine Kd.C_drew ?_))); (case side2 => exact HC1.out); rintro e w' ⟨rfl, ⟨nd, rfl⟩⟩) | (go_at_call 82; (with_reducible refine (vinculumref11_ends.calls _ _ l2 i t728 t729 _ ?side1 ?side2 A80.out).mono ?_); (case side1 => repeat (first | exact (Kd.C_below HR2.out (by repeat (first | (with_reducible first | exact HB.out | apply below_alloc | apply pw_below_drewN | apply below_drew1 | refine below_set ?_ GE.out) | exact HB.out))) | (with_reducible refine Kd.C_alloc ?_ _) | (with_reducible refine Kd.C_drewN ?_ _) | (with_reducible refine Kd.C_drew ?_))); (case side2 => exact HC2.out); rintro e w' ⟨rfl, ⟨nd, rfl⟩⟩) | ((with_reducible refine gate_dst (N := 78) rfl ?_); (try (refine gate_guard (by rfl) ?_; dsimp only)); refine Kd.R_lit (Kd.int .i64) _ 3 ?hg (N := 78) ?hd (xs := ([] : List Int)) (inner := []) (ok := fun _ => True) (okp := fun _ => True) ?hr ?hp (fun _ hk => hk) trivial (Below.refl _ _) (Nat.le_refl _) (by simp) ?_; (case hd => rfl); (case hg => rfl); (case hr => first | (go_simp; done) | (go_simp; rfl)); (case hp => exact (Reps.none _ _)); intro v731 w86 ho87 hb hg_ hnew_; clear hg_ hnew_; have n0_ := Aside0.mk (Kd.R_lower ho87 (below_size (by repeat (first | (with_reducible first | exact HB.out | apply below_alloc | apply pw_below_drewN | apply below_drew1 | refine below_set ?_ GE.out) | exact HB.out)))); have n2_ := Aside0.mk (blk_below (g := gb) (o := .cells #[.slice none 0 0, .int .i64 0, .int .i64 0] 54 (0, 0)) (by (with_reducible repeat (first | refine blk_drewN ?_ _ | refine blk_drew ?_ | refine blk_alloc ?_ _)); exact BK.out) hb); have n3_ := Aside0.mk (below_step (by repeat (first | (with_reducible first | exact HB.out | apply below_alloc | apply pw_below_drewN | apply below_drew1 | refine below_set ?_ GE.out) | exact HB.out)) hb); clear BK; clear HB; have HO732 := n0_; have BK := n2_; have HB := n3_; clear n0_ n2_ n3_; clear hb ho87; obtain ⟨i088, hi088, _, hsz88, _⟩ := info_parts info3; obtain ⟨hcut88, hA88, hC88⟩ := print_take_of (P := Tryd.prog) (Value.int .i64) 0 26 3 .i64 Tryd.underlying26 hi088 hsz88 (some ad1) c1 l1 i g0 g1' HC1.out; have HR733 := Aside0.mk (Kd.C_of_reads (h1 := fun _ => rfl) (hA88 _ (Kd.reads_of_C HR1.out))); have HC733 := Aside0.mk hC88; clear hA88 hC88 hi088 hsz88) | ((with_reducible refine gate_builtin (b := .append) (xs := #[.tmp 78, .tmp 81]) rfl ?_); (try (refine gate_guard (by rfl) ?_; dsimp only)); at_builtin; refine Kd.R_append_rows (Kd.int .i64) (w0 := w) w.heap.size rfl (.tmp 78) (.tmp 81) 26 3 (.int .i64 0) 8 rfl Tryd.underlying26 info3 rfl (by decide) (by omega) v731 ([] : List Int) (l1.take (i : Int).toNat) _ _ _ (fun _ => True) (fun _ => False) rfl rfl ?aO ?aR (fun _ _ h => h) (fun _ h => h.elim) ?aF ?aB ?aS ?aL ?_; (case aR => have hrr_ := Kd.C_below HR733.out HB.out; rw [LTK.out] at hrr_; exact hrr_); (case aB => exact (by repeat (first | (with_reducible first | exact HB.out | apply below_alloc | apply pw_below_drewN | apply below_drew1 | refine below_set ?_ GE.out) | exact HB.out))); (case aF => exact (fun _ _ => trivial)); (case aO => exact (by (with_reducible repeat (first | apply Kd.R_alloc | apply Kd.R_drewN | apply Kd.R_drew)); exact HO732.out)); (case aS => exact (below_size (by repeat (first | (with_reducible first | exact HB.out | apply below_alloc | apply pw_below_drewN | apply below_drew1 | refine below_set ?_ GE.out) | exact HB.out)))); (case aL => have := LMc.out; have hlx_ := LTK.out; omega); intro v735 w89 ho hb hg hat; rw [← Ny734.out] at ho; have n1_ := Aside0.mk (blk_grown (g := gb) (o := .cells #[.slice none 0 0, .int .i64 0, .int .i64 0] 54 (0, 0)) (by (with_reducible repeat (first | refine blk_drewN ?_ _ | refine blk_drew ?_ | refine blk_alloc ?_ _)); exact BK.out) hg (Kd.R_ne HO732.out BK.out (by decide))); have n2_ := Aside0.mk (hb); have n3_ := Aside0.mk (ho); clear BK; clear HB; clear HO732; have BK := n1_; have HB := n2_; have HO736 := n3_; clear n1_ n2_ n3_; clear ho hb hg hat; obtain ⟨Ao90, co90, eo90⟩ := Kd.R_slice HO736.out; subst eo90; have hcz92_0 : w89.cell? ⟨gb, 0, none⟩ = some (.slice none 0 0) := (blk_cell BK.out 0).trans rfl; have hcz92_1 : w89.cell? ⟨gb, 1, none⟩ = some (.int .i64 0) := (blk_cell BK.out 1).trans rfl; have hcz92_2 : w89.cell? ⟨gb, 2, none⟩ = some (.int .i64 0) := (blk_cell BK.out 2).trans rfl; have hfz92_0 := blk_frozen BK.out 0; have hfz92_1 := blk_frozen BK.out 1; have hfz92_2 := blk_frozen BK.out 2))
     refine bodyPost_ret (results_ct rfl _ _ gb 54 #[.slice Ao90 y734.length co90, .int .i64 ji84, .int .i64 ji85] (0, 0) _ rfl (by (with_reducible repeat (first | refine blk_drewN ?_ _ | refine blk_drew ?_ | refine blk_alloc ?_ _)); refine blk_put (cs := #[.slice Ao90 y734.length co90, .int .i64 ji84, .int .i64 0]) ?_ 2 _ rfl; (with_reducible repeat (first | refine blk_drewN ?_ _ | refine blk_drew ?_ | refine blk_alloc ?_ _)); refine blk_put (cs := #[.slice Ao90 y734.length co90, .int .i64 0, .int .i64 0]) ?_ 1 _ rfl; (with_reducible repeat (first | refine blk_drewN ?_ _ | refine blk_drew ?_ | refine blk_alloc ?_ _)); refine blk_put (cs := #[.slice none 0 0, .int .i64 0, .int .i64 0]) ?_ 0 _ rfl; (with_reducible repeat (first | refine blk_drewN ?_ _ | refine blk_drew ?_ | refine blk_alloc ?_ _)); exact BK.out) Tryd.underlying54 rfl (by kernel_rfl)) rfl ?_
     exact ⟨_, by first | rfl | (simp only [← hji84, ← hji85]; rfl), by (with_reducible repeat (first | apply Kd.R_alloc | apply Kd.R_drewN | apply Kd.R_drew)); exact Kd.R_mono (Kd.R_far (p := ⟨gb, 2, none⟩) (Kd.R_far (p := ⟨gb, 1, none⟩) (Kd.R_far (p := ⟨gb, 0, none⟩) (Kd.R_types HO736.out BK.out (by decide)) (fun _ hk => hk.2) (.slice Ao90 y734.length co90)) (fun _ hk => hk.2) (.int .i64 ji84)) (fun _ hk => hk.2) (.int .i64 ji85)) (fun _ hk => trivial), (by repeat (first | (with_reducible first | exact HB.out | apply below_alloc | apply pw_below_drewN | apply below_drew1 | refine below_set ?_ GE.out) | exact HB.out))⟩
set_option maxHeartbeats 4000000 in
set_option maxRecDepth 100000 in
theorem rbl_bad1 (k : Nat) (a0_0 : Int) (a0_1 : ByteArray) (a0_2 : Int) (A0_3 : Option Addr) (c0_3 : Nat) (l0_3 : List (S36)) (A1 : Option Addr) (c1 : Nat) (l1 : List Int) (A2 : Option Addr) (c2 : Nat) (l2 : List Int) (w : World) (hr0_3 : Kd.C k36 w A0_3 l0_3.length l0_3) (hc0_3 : l0_3.length ≤ c0_3) (hr1 : Kd.C (Kd.int .i64) w A1 l1.length l1) (hc1 : l1.length ≤ c1) (hr2 : Kd.C (Kd.int .i64) w A2 l2.length l2) (hc2 : l2.length ≤ c2) (hV : vinculumref09_Valid.f k a0_0 a0_1 a0_2 l0_3 = some false) : Calls Tryd.prog 48 #[.agg #[.int .i64 a0_0, .string a0_1, .int .i64 a0_2, .slice A0_3 l0_3.length c0_3], .slice A1 l1.length c1, .slice A2 l2.length c2] w fun e w' => ∃ v0_ : Value, e = .returned (.tuple #[.agg #[v0_, .int .i64 0, .int .i64 0], .int .i64 1]) ∧ Kd.R (Kd.int .i64) 3 w' w.heap.size (fun _ => True) v0_ [] ∧ Below w.heap.size w w' := by
 have hu36 := Tryd.underlying36
 have hu54 := Tryd.underlying54
 have HR0 := Aside0.mk hr0_3
 have HC0 := Aside0.mk hc0_3
 have HR1 := Aside0.mk hr1
 have HC1 := Aside0.mk hc1
 have HR2 := Aside0.mk hr2
 have HC2 := Aside0.mk hc2
 have HV := Aside0.mk hV
 clear hr0_3 hc0_3 hr1 hc1 hr2 hc2 hV
 go_enter Tryd.func48, Tryd.ntmps48
 have X0 := blk_alloc (blk_new w (.cells #[.int .i64 a0_0, .string a0_1, .int .i64 a0_2, .slice A0_3 l0_3.length c0_3] 36)) (.cells #[.slice none 0 0, .int .i64 0, .int .i64 0] 54)
 have Y0 := blk_new (w.alloc (.cells #[.int .i64 a0_0, .string a0_1, .int .i64 a0_2, .slice A0_3 l0_3.length c0_3] 36)) (.cells #[.slice none 0 0, .int .i64 0, .int .i64 0] 54)
 rw [World.size_alloc] at Y0
 have B0 := below_alloc (below_alloc (Below.refl w.heap.size w) (.cells #[.int .i64 a0_0, .string a0_1, .int .i64 a0_2, .slice A0_3 l0_3.length c0_3] 36)) (.cells #[.slice none 0 0, .int .i64 0, .int .i64 0] 54)
 have HX0 := Aside0.mk X0
 have HY0 := Aside0.mk Y0
 have HB0 := Aside0.mk B0
 clear X0 Y0 B0
 go_wp2_with fail
 refine (vinculumref09_Valid.calls k a0_0 a0_1 a0_2 A0_3 c0_3 l0_3 false _ (Kd.C_below HR0.out HB0.out) HC0.out HV.out).mono ?_
 rintro e w2 ⟨rfl, hb⟩
 have HX2 := Aside0.mk (blk_below HX0.out hb)
 have HY2 := Aside0.mk (blk_below HY0.out hb)
 have HB2 := Aside0.mk (below_step HB0.out hb)
 clear hb HX0 HY0 HB0
 have GE := Aside0.mk (Nat.le_succ w.heap.size)
 simp only [Nat.succ_eq_add_one] at GE
 have HB := HB2
 have BK := HY2
 generalize w.heap.size + 1 = gb at GE BK ⊢
 have hcz0 : w2.cell? ⟨gb, 0, none⟩ = some (.slice none 0 0) := (blk_cell BK.out 0).trans rfl
 have hcz1 : w2.cell? ⟨gb, 1, none⟩ = some (.int .i64 0) := (blk_cell BK.out 1).trans rfl
 have hcz2 : w2.cell? ⟨gb, 2, none⟩ = some (.int .i64 0) := (blk_cell BK.out 2).trans rfl
 have hfz0 := blk_frozen BK.out 0
 have hfz1 := blk_frozen BK.out 1
 have hfz2 := blk_frozen BK.out 2
 go_wp2
 refine bodyPost_ret (results_ct rfl _ _ gb 54 #[.slice none 0 0, .int .i64 0, .int .i64 0] (0, 0) _ rfl (by (with_reducible repeat (first | refine blk_drewN ?_ _ | refine blk_drew ?_ | refine blk_alloc ?_ _)); refine blk_put (cs := #[.slice none 0 0, .int .i64 0, .int .i64 0]) ?_ 2 _ rfl; (with_reducible repeat (first | refine blk_drewN ?_ _ | refine blk_drew ?_ | refine blk_alloc ?_ _)); refine blk_put (cs := #[.slice none 0 0, .int .i64 0, .int .i64 0]) ?_ 1 _ rfl; (with_reducible repeat (first | refine blk_drewN ?_ _ | refine blk_drew ?_ | refine blk_alloc ?_ _)); refine blk_put (cs := #[.slice none 0 0, .int .i64 0, .int .i64 0]) ?_ 0 _ rfl; (with_reducible repeat (first | refine blk_drewN ?_ _ | refine blk_drew ?_ | refine blk_alloc ?_ _)); exact BK.out) Tryd.underlying54 rfl (by kernel_rfl)) rfl ?_
 exact ⟨_, rfl, Kd.R_nil _ _ _ _ _, by repeat (first | (with_reducible first | exact HB.out | apply below_alloc | apply pw_below_drewN | apply below_drew1 | refine below_set ?_ GE.out) | exact HB.out)⟩
set_option maxHeartbeats 4000000 in
set_option maxRecDepth 100000 in
theorem rbl_bad2 (k : Nat) (a0_0 : Int) (a0_1 : ByteArray) (a0_2 : Int) (A0_3 : Option Addr) (c0_3 : Nat) (l0_3 : List (S36)) (A1 : Option Addr) (c1 : Nat) (l1 : List Int) (A2 : Option Addr) (c2 : Nat) (l2 : List Int) (w : World) (hr0_3 : Kd.C k36 w A0_3 l0_3.length l0_3) (hc0_3 : l0_3.length ≤ c0_3) (hr1 : Kd.C (Kd.int .i64) w A1 l1.length l1) (hc1 : l1.length ≤ c1) (hr2 : Kd.C (Kd.int .i64) w A2 l2.length l2) (hc2 : l2.length ≤ c2) (hV : vinculumref09_Valid.f k a0_0 a0_1 a0_2 l0_3 = some true) (h1 : vinculumref10_Valid.f k a0_0 a0_1 a0_2 l0_3 l1 = some false) : Calls Tryd.prog 48 #[.agg #[.int .i64 a0_0, .string a0_1, .int .i64 a0_2, .slice A0_3 l0_3.length c0_3], .slice A1 l1.length c1, .slice A2 l2.length c2] w fun e w' => ∃ v0_ : Value, e = .returned (.tuple #[.agg #[v0_, .int .i64 0, .int .i64 0], .int .i64 2]) ∧ Kd.R (Kd.int .i64) 3 w' w.heap.size (fun _ => True) v0_ [] ∧ Below w.heap.size w w' := by
 have hu36 := Tryd.underlying36
 have hu54 := Tryd.underlying54
 have HR0 := Aside0.mk hr0_3
 have HC0 := Aside0.mk hc0_3
 have HR1 := Aside0.mk hr1
 have HC1 := Aside0.mk hc1
 have HR2 := Aside0.mk hr2
 have HC2 := Aside0.mk hc2
 have HV := Aside0.mk hV
 have H1 := Aside0.mk h1
 clear hr0_3 hc0_3 hr1 hc1 hr2 hc2 hV h1
 go_enter Tryd.func48, Tryd.ntmps48
 have X0 := blk_alloc (blk_new w (.cells #[.int .i64 a0_0, .string a0_1, .int .i64 a0_2, .slice A0_3 l0_3.length c0_3] 36)) (.cells #[.slice none 0 0, .int .i64 0, .int .i64 0] 54)
 have Y0 := blk_new (w.alloc (.cells #[.int .i64 a0_0, .string a0_1, .int .i64 a0_2, .slice A0_3 l0_3.length c0_3] 36)) (.cells #[.slice none 0 0, .int .i64 0, .int .i64 0] 54)
 rw [World.size_alloc] at Y0
 have B0 := below_alloc (below_alloc (Below.refl w.heap.size w) (.cells #[.int .i64 a0_0, .string a0_1, .int .i64 a0_2, .slice A0_3 l0_3.length c0_3] 36)) (.cells #[.slice none 0 0, .int .i64 0, .int .i64 0] 54)
 have HX0 := Aside0.mk X0
 have HY0 := Aside0.mk Y0
 have HB0 := Aside0.mk B0
 clear X0 Y0 B0
 go_wp2_with fail
 refine (vinculumref09_Valid.calls k a0_0 a0_1 a0_2 A0_3 c0_3 l0_3 true _ (Kd.C_below HR0.out HB0.out) HC0.out HV.out).mono ?_
 rintro e w2 ⟨rfl, hb⟩
 have HX2 := Aside0.mk (blk_below HX0.out hb)
 have HY2 := Aside0.mk (blk_below HY0.out hb)
 have HB2 := Aside0.mk (below_step HB0.out hb)
 clear hb HX0 HY0 HB0
 have q0 := (blk_cell HX2.out 0).trans rfl
 have q1 := (blk_cell HX2.out 1).trans rfl
 have q2 := (blk_cell HX2.out 2).trans rfl
 have q3 := (blk_cell HX2.out 3).trans rfl
 go_wp2_with fail
 refine (vinculumref10_Valid.calls k a0_0 a0_1 a0_2 A0_3 c0_3 l0_3 A1 c1 l1 false _ (Kd.C_below HR0.out HB2.out) HC0.out (Kd.C_below HR1.out HB2.out) HC1.out H1.out).mono ?_
 rintro e w3 ⟨rfl, hb⟩
 have HX3 := Aside0.mk (blk_below HX2.out hb)
 have HY3 := Aside0.mk (blk_below HY2.out hb)
 have HB3 := Aside0.mk (below_step HB2.out hb)
 clear hb HX2 HY2 HB2 q0 q1 q2 q3
 have GE := Aside0.mk (Nat.le_succ w.heap.size)
 simp only [Nat.succ_eq_add_one] at GE
 have HB := HB3
 have BK := HY3
 generalize w.heap.size + 1 = gb at GE BK ⊢
 have hcz0 : w3.cell? ⟨gb, 0, none⟩ = some (.slice none 0 0) := (blk_cell BK.out 0).trans rfl
 have hcz1 : w3.cell? ⟨gb, 1, none⟩ = some (.int .i64 0) := (blk_cell BK.out 1).trans rfl
 have hcz2 : w3.cell? ⟨gb, 2, none⟩ = some (.int .i64 0) := (blk_cell BK.out 2).trans rfl
 have hfz0 := blk_frozen BK.out 0
 have hfz1 := blk_frozen BK.out 1
 have hfz2 := blk_frozen BK.out 2
 go_wp2
 refine bodyPost_ret (results_ct rfl _ _ gb 54 #[.slice none 0 0, .int .i64 0, .int .i64 0] (0, 0) _ rfl (by (with_reducible repeat (first | refine blk_drewN ?_ _ | refine blk_drew ?_ | refine blk_alloc ?_ _)); refine blk_put (cs := #[.slice none 0 0, .int .i64 0, .int .i64 0]) ?_ 2 _ rfl; (with_reducible repeat (first | refine blk_drewN ?_ _ | refine blk_drew ?_ | refine blk_alloc ?_ _)); refine blk_put (cs := #[.slice none 0 0, .int .i64 0, .int .i64 0]) ?_ 1 _ rfl; (with_reducible repeat (first | refine blk_drewN ?_ _ | refine blk_drew ?_ | refine blk_alloc ?_ _)); refine blk_put (cs := #[.slice none 0 0, .int .i64 0, .int .i64 0]) ?_ 0 _ rfl; (with_reducible repeat (first | refine blk_drewN ?_ _ | refine blk_drew ?_ | refine blk_alloc ?_ _)); exact BK.out) Tryd.underlying54 rfl (by kernel_rfl)) rfl ?_
 exact ⟨_, rfl, Kd.R_nil _ _ _ _ _, by repeat (first | (with_reducible first | exact HB.out | apply below_alloc | apply pw_below_drewN | apply below_drew1 | refine below_set ?_ GE.out) | exact HB.out)⟩
set_option maxHeartbeats 4000000 in
set_option maxRecDepth 100000 in
theorem rbl_bad3 (k : Nat) (a0_0 : Int) (a0_1 : ByteArray) (a0_2 : Int) (A0_3 : Option Addr) (c0_3 : Nat) (l0_3 : List (S36)) (A1 : Option Addr) (c1 : Nat) (l1 : List Int) (A2 : Option Addr) (c2 : Nat) (l2 : List Int) (w : World) (hr0_3 : Kd.C k36 w A0_3 l0_3.length l0_3) (hc0_3 : l0_3.length ≤ c0_3) (hr1 : Kd.C (Kd.int .i64) w A1 l1.length l1) (hc1 : l1.length ≤ c1) (hr2 : Kd.C (Kd.int .i64) w A2 l2.length l2) (hc2 : l2.length ≤ c2) (hV : vinculumref09_Valid.f k a0_0 a0_1 a0_2 l0_3 = some true) (h1 : vinculumref10_Valid.f k a0_0 a0_1 a0_2 l0_3 l1 = some true) (h2 : vinculumref10_Valid.f k a0_0 a0_1 a0_2 l0_3 l2 = some false) : Calls Tryd.prog 48 #[.agg #[.int .i64 a0_0, .string a0_1, .int .i64 a0_2, .slice A0_3 l0_3.length c0_3], .slice A1 l1.length c1, .slice A2 l2.length c2] w fun e w' => ∃ v0_ : Value, e = .returned (.tuple #[.agg #[v0_, .int .i64 0, .int .i64 0], .int .i64 2]) ∧ Kd.R (Kd.int .i64) 3 w' w.heap.size (fun _ => True) v0_ [] ∧ Below w.heap.size w w' := by
 have hu36 := Tryd.underlying36
 have hu54 := Tryd.underlying54
 have HR0 := Aside0.mk hr0_3
 have HC0 := Aside0.mk hc0_3
 have HR1 := Aside0.mk hr1
 have HC1 := Aside0.mk hc1
 have HR2 := Aside0.mk hr2
 have HC2 := Aside0.mk hc2
 have HV := Aside0.mk hV
 have H1 := Aside0.mk h1
 have H2 := Aside0.mk h2
 clear hr0_3 hc0_3 hr1 hc1 hr2 hc2 hV h1 h2
 go_enter Tryd.func48, Tryd.ntmps48
 have X0 := blk_alloc (blk_new w (.cells #[.int .i64 a0_0, .string a0_1, .int .i64 a0_2, .slice A0_3 l0_3.length c0_3] 36)) (.cells #[.slice none 0 0, .int .i64 0, .int .i64 0] 54)
 have Y0 := blk_new (w.alloc (.cells #[.int .i64 a0_0, .string a0_1, .int .i64 a0_2, .slice A0_3 l0_3.length c0_3] 36)) (.cells #[.slice none 0 0, .int .i64 0, .int .i64 0] 54)
 rw [World.size_alloc] at Y0
 have B0 := below_alloc (below_alloc (Below.refl w.heap.size w) (.cells #[.int .i64 a0_0, .string a0_1, .int .i64 a0_2, .slice A0_3 l0_3.length c0_3] 36)) (.cells #[.slice none 0 0, .int .i64 0, .int .i64 0] 54)
 have HX0 := Aside0.mk X0
 have HY0 := Aside0.mk Y0
 have HB0 := Aside0.mk B0
 clear X0 Y0 B0
 go_wp2_with fail
 refine (vinculumref09_Valid.calls k a0_0 a0_1 a0_2 A0_3 c0_3 l0_3 true _ (Kd.C_below HR0.out HB0.out) HC0.out HV.out).mono ?_
 rintro e w2 ⟨rfl, hb⟩
 have HX2 := Aside0.mk (blk_below HX0.out hb)
 have HY2 := Aside0.mk (blk_below HY0.out hb)
 have HB2 := Aside0.mk (below_step HB0.out hb)
 clear hb HX0 HY0 HB0
 have q0 := (blk_cell HX2.out 0).trans rfl
 have q1 := (blk_cell HX2.out 1).trans rfl
 have q2 := (blk_cell HX2.out 2).trans rfl
 have q3 := (blk_cell HX2.out 3).trans rfl
 go_wp2_with fail
 refine (vinculumref10_Valid.calls k a0_0 a0_1 a0_2 A0_3 c0_3 l0_3 A1 c1 l1 true _ (Kd.C_below HR0.out HB2.out) HC0.out (Kd.C_below HR1.out HB2.out) HC1.out H1.out).mono ?_
 rintro e w3 ⟨rfl, hb⟩
 have HX3 := Aside0.mk (blk_below HX2.out hb)
 have HY3 := Aside0.mk (blk_below HY2.out hb)
 have HB3 := Aside0.mk (below_step HB2.out hb)
 clear hb HX2 HY2 HB2 q0 q1 q2 q3
 have q0 := (blk_cell HX3.out 0).trans rfl
 have q1 := (blk_cell HX3.out 1).trans rfl
 have q2 := (blk_cell HX3.out 2).trans rfl
 have q3 := (blk_cell HX3.out 3).trans rfl
 go_wp2_with fail
 refine (vinculumref10_Valid.calls k a0_0 a0_1 a0_2 A0_3 c0_3 l0_3 A2 c2 l2 false _ (Kd.C_below HR0.out HB3.out) HC0.out (Kd.C_below HR2.out HB3.out) HC2.out H2.out).mono ?_
 rintro e w4 ⟨rfl, hb⟩
 have HY4 := Aside0.mk (blk_below HY3.out hb)
 have HB4 := Aside0.mk (below_step HB3.out hb)
 clear hb HX3 HY3 HB3 q0 q1 q2 q3
 have GE := Aside0.mk (Nat.le_succ w.heap.size)
 simp only [Nat.succ_eq_add_one] at GE
 have HB := HB4
 have BK := HY4
 generalize w.heap.size + 1 = gb at GE BK ⊢
 have hcz0 : w4.cell? ⟨gb, 0, none⟩ = some (.slice none 0 0) := (blk_cell BK.out 0).trans rfl
 have hcz1 : w4.cell? ⟨gb, 1, none⟩ = some (.int .i64 0) := (blk_cell BK.out 1).trans rfl
 have hcz2 : w4.cell? ⟨gb, 2, none⟩ = some (.int .i64 0) := (blk_cell BK.out 2).trans rfl
 have hfz0 := blk_frozen BK.out 0
 have hfz1 := blk_frozen BK.out 1
 have hfz2 := blk_frozen BK.out 2
 go_wp2
 refine bodyPost_ret (results_ct rfl _ _ gb 54 #[.slice none 0 0, .int .i64 0, .int .i64 0] (0, 0) _ rfl (by (with_reducible repeat (first | refine blk_drewN ?_ _ | refine blk_drew ?_ | refine blk_alloc ?_ _)); refine blk_put (cs := #[.slice none 0 0, .int .i64 0, .int .i64 0]) ?_ 2 _ rfl; (with_reducible repeat (first | refine blk_drewN ?_ _ | refine blk_drew ?_ | refine blk_alloc ?_ _)); refine blk_put (cs := #[.slice none 0 0, .int .i64 0, .int .i64 0]) ?_ 1 _ rfl; (with_reducible repeat (first | refine blk_drewN ?_ _ | refine blk_drew ?_ | refine blk_alloc ?_ _)); refine blk_put (cs := #[.slice none 0 0, .int .i64 0, .int .i64 0]) ?_ 0 _ rfl; (with_reducible repeat (first | refine blk_drewN ?_ _ | refine blk_drew ?_ | refine blk_alloc ?_ _)); exact BK.out) Tryd.underlying54 rfl (by kernel_rfl)) rfl ?_
 exact ⟨_, rfl, Kd.R_nil _ _ _ _ _, by repeat (first | (with_reducible first | exact HB.out | apply below_alloc | apply pw_below_drewN | apply below_drew1 | refine below_set ?_ GE.out) | exact HB.out)⟩
end btr
end Go.Proofs.YtagkhoeidjlahaaDoor.G
namespace Go.Proofs.YtagkhoeidjlahaaDoor.G
open Go.RowKit Go.Proofs.YtagkhoeidjlahaaDoorW.PrintWords Go.Proofs.YtagkhoeidjlahaaDoorW.PrintLast Go.Proofs.YtagkhoeidjlahaaDoorW.PrintMore
attribute [local go_sem] max2_int min2_int max_two min_two max_three min_three max_four min_four
set_option linter.unusedVariables false
set_option linter.unusedSimpArgs false
def vinculumref11_Between.f (k : Nat) (a0_0 : Int) (a0_1 : ByteArray) (a0_2 : Int) (l0_3 : List (S36)) (l1 : List Int) (l2 : List Int) : Option (List Int × Int × Int × Int) := (vinculumref09_Valid.f k a0_0 a0_1 a0_2 l0_3).bind fun t => if t = true then ((vinculumref10_Valid.f k a0_0 a0_1 a0_2 l0_3 l1).bind fun t1 => if t1 = true then ((vinculumref10_Valid.f k a0_0 a0_1 a0_2 l0_3 l2).bind fun t2 => if t2 = true then rbl l1 l2 k 0 else some ([], 0, 0, 2)) else some ([], 0, 0, 2)) else some ([], 0, 0, 1)
theorem vinculumref11_Between.calls (k : Nat) (a0_0 : Int) (a0_1 : ByteArray) (a0_2 : Int) (A0_3 : Option Addr) (c0_3 : Nat) (l0_3 : List (S36)) (A1 : Option Addr) (c1 : Nat) (l1 : List Int) (A2 : Option Addr) (c2 : Nat) (l2 : List Int) (r1 : List Int) (r2 : Int) (r3 : Int) (r4 : Int) (w : World) (hr0_3 : Kd.C k36 w A0_3 l0_3.length l0_3) (hc0_3 : l0_3.length ≤ c0_3) (hr1 : Kd.C (Kd.int .i64) w A1 l1.length l1) (hc1 : l1.length ≤ c1) (hr2 : Kd.C (Kd.int .i64) w A2 l2.length l2) (hc2 : l2.length ≤ c2) (h : vinculumref11_Between.f k a0_0 a0_1 a0_2 l0_3 l1 l2 = some (r1, r2, r3, r4)) :
  Calls Tryd.prog 48 #[.agg #[.int .i64 a0_0, .string a0_1, .int .i64 a0_2, .slice A0_3 l0_3.length c0_3], .slice A1 l1.length c1, .slice A2 l2.length c2] w fun e w' => ∃ v0_ : Value, e = .returned (.tuple #[.agg #[v0_, .int .i64 r2, .int .i64 r3], .int .i64 r4]) ∧ Kd.R (Kd.int .i64) 3 w' w.heap.size (fun _ => True) v0_ r1 ∧ Below w.heap.size w w' := by
 obtain ⟨t, hV, h⟩ := Option.bind_eq_some_iff.mp h
 cases t with
 | false =>
  simp only [Bool.false_eq_true, if_false, Option.some.injEq, Prod.mk.injEq] at h
  obtain ⟨rfl, rfl, rfl, rfl⟩ := h
  exact rbl_bad1 k a0_0 a0_1 a0_2 A0_3 c0_3 l0_3 A1 c1 l1 A2 c2 l2 w hr0_3 hc0_3 hr1 hc1 hr2 hc2 hV
 | true =>
  rw [if_pos rfl] at h
  obtain ⟨t1, h1, h⟩ := Option.bind_eq_some_iff.mp h
  cases t1 with
  | false =>
   simp only [Bool.false_eq_true, if_false, Option.some.injEq, Prod.mk.injEq] at h
   obtain ⟨rfl, rfl, rfl, rfl⟩ := h
   exact rbl_bad2 k a0_0 a0_1 a0_2 A0_3 c0_3 l0_3 A1 c1 l1 A2 c2 l2 w hr0_3 hc0_3 hr1 hc1 hr2 hc2 hV h1
  | true =>
   rw [if_pos rfl] at h
   obtain ⟨t2, h2, h⟩ := Option.bind_eq_some_iff.mp h
   cases t2 with
   | false =>
    simp only [Bool.false_eq_true, if_false, Option.some.injEq, Prod.mk.injEq] at h
    obtain ⟨rfl, rfl, rfl, rfl⟩ := h
    exact rbl_bad3 k a0_0 a0_1 a0_2 A0_3 c0_3 l0_3 A1 c1 l1 A2 c2 l2 w hr0_3 hc0_3 hr1 hc1 hr2 hc2 hV h1 h2
   | true =>
    rw [if_pos rfl] at h
    exact rbl_walk k a0_0 a0_1 a0_2 A0_3 c0_3 l0_3 A1 c1 l1 A2 c2 l2 r1 r2 r3 r4 w hr0_3 hc0_3 hr1 hc1 hr2 hc2 hV h1 h2 h
end Go.Proofs.YtagkhoeidjlahaaDoor.G
