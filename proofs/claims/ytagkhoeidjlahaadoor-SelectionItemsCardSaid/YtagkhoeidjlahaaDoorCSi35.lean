-- Written by pack2.py, a program of this session: this session's texts and those that the kit's printer wrote for this claim, pruned to what the claims use.
import Derived.Test.YtagkhoeidjlahaaDoorCSi2
import Derived.Test.YtagkhoeidjlahaaDoorCSi34
import Derived.Test.YtagkhoeidjlahaaDoorCSi31
import Derived.Test.YtagkhoeidjlahaaDoorCSi28
import Derived.Test.YtagkhoeidjlahaaDoorCSi29
import Derived.Test.YtagkhoeidjlahaaDoorCSi33
import Derived.Test.YtagkhoeidjlahaaDoorCSi17
import Derived.Deep.CutRange
namespace Go.Proofs.YtagkhoeidjlahaaDoor.G
open Go.RowKit Go.Proofs.YtagkhoeidjlahaaDoorW.PrintWords Go.Proofs.YtagkhoeidjlahaaDoorW.PrintLast Go.Proofs.YtagkhoeidjlahaaDoorW.PrintMore
attribute [local go_sem] max2_int min2_int max_two min_two max_three min_three max_four min_four
set_option linter.unusedVariables false
set_option linter.unusedSimpArgs false
section rit
def cutR (l : List S36) (a b : Int) : List S36 := (l.take b.toNat).drop a.toNat
def outR (l : List S36) (a b : Int) : Bool := decide (a < 0) || decide (b < a) || decide ((l.length : Int) < b)
def rItems (k : Nat) (x : S36) (p : List Int) (a b : Int) : Option (List S36 × Int) :=
 (rRow k x p).bind fun y => some (if y.2 = 0 then (if outR y.1.f3 a b = true then ([], 2) else (cutR y.1.f3 a b, 0)) else ([], y.2))
set_option maxHeartbeats 4000000 in
set_option maxRecDepth 100000 in
theorem rItems_calls (k : Nat) (x : S36) (A : Option Addr) (c : Nat) (A1 : Option Addr) (c1 : Nat) (l1 : List Int) (a b : Int) (y : List S36) (f : Int) (w : World) (hr : Kd.C k36 w A x.f3.length x.f3) (hc : x.f3.length ≤ c) (hr1 : Kd.C (Kd.int .i64) w A1 l1.length l1) (hc1 : l1.length ≤ c1) (hlt : y.length ≤ 1000000) (h : rItems k x l1 a b = some (y, f)) :
  Calls Tryd.prog 59 #[.agg #[.int .i64 x.f0, .string x.f1, .int .i64 x.f2, .slice A x.f3.length c], .agg #[.slice A1 l1.length c1, .int .i64 a, .int .i64 b]] w fun e w' => ∃ v : Value, e = .returned (.tuple #[v, .int .i64 f]) ∧ Kd.V k36 36 w' w.heap.size (fun _ => True) v y ∧ Below w.heap.size w w' := by
 have hu36 := Tryd.underlying36
 have hu54 := Tryd.underlying54
 obtain ⟨⟨q, g⟩, hV, e1⟩ := Option.bind_eq_some_iff.mp h
 simp only [Option.some.injEq] at e1
 have HR0 := Aside0.mk hr
 have HR1 := Aside0.mk hr1
 have HV := Aside0.mk hV
 have H := Aside0.mk e1
 have HLT := Aside0.mk hlt
 clear h hr hr1 hV e1 hlt
 have HB0 := Aside0.mk (below_alloc (below_alloc (Below.refl w.heap.size w) (.cells #[.int .i64 x.f0, .string x.f1, .int .i64 x.f2, .slice A x.f3.length c] 36)) (.cells #[.slice A1 l1.length c1, .int .i64 a, .int .i64 b] 54))
 have Y0 := blk_new (w.alloc (.cells #[.int .i64 x.f0, .string x.f1, .int .i64 x.f2, .slice A x.f3.length c] 36)) (.cells #[.slice A1 l1.length c1, .int .i64 a, .int .i64 b] 54)
 rw [World.size_alloc] at Y0
 have HY0 := Aside0.mk Y0
 clear Y0
 go_enter Tryd.func59, Tryd.ntmps59
 go_wp2_with fail
 refine (rRow_calls k x A c A1 c1 l1 q g _ (Kd.C_below HR0.out HB0.out) hc (Kd.C_below HR1.out HB0.out) hc1 HV.out).mono ?_
 rintro e w2 ⟨v2, rfl, hN, hb⟩
 obtain ⟨A2, c2, rfl⟩ := Kd.V_slice hN
 have HY2 := Aside0.mk (blk_alloc (blk_below HY0.out hb) (.cells #[.int .i64 q.f0, .string q.f1, .int .i64 q.f2, .slice A2 q.f3.length c2] 36))
 have HZ2 := Aside0.mk (blk_new w2 (.cells #[.int .i64 q.f0, .string q.f1, .int .i64 q.f2, .slice A2 q.f3.length c2] 36))
 have HB2 := Aside0.mk (below_alloc (below_step HB0.out hb) (.cells #[.int .i64 q.f0, .string q.f1, .int .i64 q.f2, .slice A2 q.f3.length c2] 36))
 have L2 := Aside0.mk (Kd.V_reads' hN).2.1
 have F2 := Aside0.mk (Kd.F_alloc (Kd.V_F hN) (.cells #[.int .i64 q.f0, .string q.f1, .int .i64 q.f2, .slice A2 q.f3.length c2] 36))
 clear hN hb HY0 HB0 HV
 have y0_ := (blk_cell HY2.out 0).trans rfl
 have y1_ := (blk_cell HY2.out 1).trans rfl
 have y2_ := (blk_cell HY2.out 2).trans rfl
 have z3_ := (blk_cell HZ2.out 3).trans rfl
 by_cases hg : g = 0
 case neg =>
  have hg1 : (g != 0) = true := by simpa using hg
  have e2 := H.out
  rw [if_neg hg] at e2
  simp only [Prod.mk.injEq] at e2
  obtain ⟨rfl, rfl⟩ := e2
  clear H hg
  go_wp2
  go_ret2
  exact ⟨_, rfl, Kd.V_nil _ _ _ _ _, HB2.out⟩
 subst hg
 have e2 := H.out
 rw [if_pos rfl] at e2
 clear H
 have H := Aside0.mk e2
 clear e2
 have key : ∀ (P : Prop), (outR q.f3 a b = true → P) → (0 ≤ a → a ≤ b → b ≤ q.f3.length → P) → P := by
  intro P h1 h2
  by_cases ho : outR q.f3 a b = true
  ·
   exact h1 ho
  ·
   unfold outR at ho
   simp only [Bool.or_eq_true, decide_eq_true_eq, not_or] at ho
   exact h2 (by omega) (by omega) (by omega)
 refine key _ (fun ho => ?_) (fun h1 h2 h3 => ?_)
 ·
  have e2 := H.out
  rw [if_pos ho] at e2
  simp only [Prod.mk.injEq] at e2
  obtain ⟨rfl, rfl⟩ := e2
  unfold outR at ho
  clear H key
  by_cases d1 : a < 0
  case' pos => have dd1 := decide_eq_true d1
  case' neg =>
   have dd1 := decide_eq_false d1
   by_cases d2 : b < a
   case' pos => have dd2 := decide_eq_true d2
   case' neg =>
    have dd2 := decide_eq_false d2
    have dd3 : decide ((q.f3.length : Int) < b) = true := by simpa [dd1, dd2] using ho
  all_goals
   clear ho d1
   go_wp2
   go_ret2
   exact ⟨_, rfl, Kd.V_nil _ _ _ _ _, HB2.out⟩
 ·
  have e2 := H.out
  have ho : ¬ outR q.f3 a b = true := by
   unfold outR
   simp only [Bool.or_eq_true, decide_eq_true_eq, not_or]
   omega
  rw [if_neg ho] at e2
  simp only [Prod.mk.injEq] at e2
  obtain ⟨rfl, rfl⟩ := e2
  have dd1 := decide_eq_false (show ¬ a < 0 by omega)
  have dd2 := decide_eq_false (show ¬ b < a by omega)
  have dd3 := decide_eq_false (show ¬ (q.f3.length : Int) < b by omega)
  clear ho H key
  obtain ⟨m, rfl⟩ : ∃ m : Nat, a = m := ⟨a.toNat, by omega⟩
  obtain ⟨n, rfl⟩ : ∃ n : Nat, b = n := ⟨b.toNat, by omega⟩
  have hmn : m ≤ n := by omega
  have hnl : n ≤ q.f3.length := by omega
  have d2n : decide (n < m) = false := decide_eq_false (by omega)
  have d3n : decide (q.f3.length < n) = false := decide_eq_false (by omega)
  have FM := Kd.F_mid F2.out hmn hnl L2.out
  rw [show ((q.f3.take n).drop m).length = n - m by simp; omega] at FM
  have HM := Aside0.mk FM
  have hnc : n ≤ c2 := Nat.le_trans hnl L2.out
  have HL := Aside0.mk (show n - m ≤ 1000000 by have := HLT.out; unfold cutR at this; simp at this; omega)
  have HC2 := Aside0.mk (Kd.F_now F2.out)
  clear FM h1 h2 h3 F2 HLT
  go_upto_region 6 with fail
  generalize w2.alloc (.cells #[.int .i64 q.f0, .string q.f1, .int .i64 q.f2, .slice A2 q.f3.length c2] 36) = w3 at HY2 HZ2 HB2 HM y0_ y1_ y2_ z3_ ⊢
  have h3w : 0 < q.f3.length → ∃ ad2, A2 = some ad2 := fun hp => by obtain ⟨ad, e, _⟩ := (HC2.out).2.2 (by omega); exact ⟨ad, e⟩
  have HM2 := HM.out
  clear HM
  rcases A2 with _ | ad2
  case' none =>
   have hz : q.f3.length = 0 := by
    rcases Nat.eq_zero_or_pos q.f3.length with h | h
    ·
     exact h
    ·
     obtain ⟨_, e⟩ := h3w h; cases e
   obtain rfl : m = 0 := by omega
   obtain rfl : n = 0 := by omega
   simp only [Option.map_none, ite_self, Nat.sub_self] at HM2
   clear hz
  case' some =>
   by_cases hcap : c2 = m
   case' pos =>
    rw [if_pos hcap] at HM2
    subst hcap
    obtain rfl : n = c2 := by omega
    rw [Nat.sub_self] at HM2
   case' neg =>
    rw [if_neg hcap] at HM2
  all_goals
    clear h3w
    have HS := Aside0.mk HM2
    clear HM2
    go_wp2_with (first | ((with_reducible refine gate_dst (N := 36) rfl ?_); refine Kd.N_lit k36 w.heap.size 36 ?hg (N' := 36) ?hd (xs := ([] : List S36)) (inner := []) (ok := fun _ => True) (okp := fun _ => False) ?hr ?hp (fun _ hk => hk.elim) trivial HB2.out HB2.out.size (by simp) ?_; (case hd => rfl); (case hg => rfl); (case hr => first | (go_simp; done) | (go_simp; rfl)); (case hp => exact (Reps.none _ _)); intro v5 w5 ho hb hg_ hnew_; have HO := Aside0.mk ho; have HB5 := Aside0.mk hb; have HW := Aside0.mk hnew_; have HY5 := Aside0.mk ((hg_.block _ (blk_lt HY2.out) (by simp)).trans HY2.out); have HZ5 := Aside0.mk ((hg_.block _ (blk_lt HZ2.out) (by simp)).trans HZ2.out); have HS5 := Aside0.mk (Kd.F_grown (Kd.F_mono (Kd.F_bound HS.out) (fun k hk => hk.2)) hg_ (by simp)); have HG := Aside0.mk hg_.size; clear ho hb hg_ hnew_ y0_ y1_ y2_ z3_; have y1_ := (blk_cell HY5.out 1).trans rfl; have y2_ := (blk_cell HY5.out 2).trans rfl; have z3_ := (blk_cell HZ5.out 3).trans rfl) | ((with_reducible refine gate_builtin (b := .append) (xs := #[.tmp 36, .tmp 43]) rfl ?_); at_builtin; refine Kd.N_append_rows k36 (w0 := w) w.heap.size rfl (.tmp 36) (.tmp 43) 23 36 (.agg #[(.int .i64 0), (.string ⟨#[]⟩), (.int .i64 0), (.slice none 0 0)]) 56 rfl Tryd.underlying23 info36 rfl (by decide) (by omega) v5 [] _ _ _ _ (fun _ => True) (fun k => k < w3.heap.size) rfl rfl HO.out HS5.out (fun k hk => ⟨trivial, fun he => by obtain ⟨b, hb1, hb2⟩ := HW.out; rw [← he] at hb1; injection hb1 with hb1; omega⟩) (fun k hk => trivial) HB5.out HB5.out.size (by have := HL.out; simp <;> omega) ?_; intro v6 w6 ho hb hg hat; have HO2 := Aside0.mk ho; have HB6 := Aside0.mk hb; clear ho hb hg hat))
    go_ret2
    exact ⟨_, rfl, by have := Kd.N_V (base' := w.heap.size) HO2.out; simpa [cutR] using this, HB6.out⟩
end rit
end Go.Proofs.YtagkhoeidjlahaaDoor.G
namespace Go.Proofs.YtagkhoeidjlahaaDoor.G
open Go.RowKit Go.Proofs.YtagkhoeidjlahaaDoorW.PrintWords Go.Proofs.YtagkhoeidjlahaaDoorW.PrintLast Go.Proofs.YtagkhoeidjlahaaDoorW.PrintMore
attribute [local go_sem] max2_int min2_int max_two min_two max_three min_three max_four min_four
set_option linter.unusedVariables false
set_option linter.unusedSimpArgs false
section smi
def SameI (k : Nat) : Prop := ∀ (l : List S36) (A0 : Option Addr) (c0 : Nat) (A1 : Option Addr) (c1 : Nat) (w : World), Kd.C k36 w A0 l.length l → l.length ≤ c0 → Kd.C k36 w A1 l.length l → l.length ≤ c1 → okD k l = true →
 Calls Tryd.prog 60 #[.slice A0 l.length c0, .slice A1 l.length c1] w fun e w' => e = .returned (.bool true) ∧ Below w.heap.size w w'
set_option maxHeartbeats 4000000 in
set_option maxRecDepth 100000 in
theorem eqT_calls (k : Nat) (ih : SameI k) (x0 : Int) (x1 : ByteArray) (x2 : Int) (l : List S36) (A0 : Option Addr) (c0 : Nat) (A1 : Option Addr) (c1 : Nat) (w : World) (h0 : Kd.C k36 w A0 l.length l) (hc0 : l.length ≤ c0) (h1 : Kd.C k36 w A1 l.length l) (hc1 : l.length ≤ c1) (hk : okD k l = true) :
  Calls Tryd.prog 85 #[.agg #[.int .i64 x0, .string x1, .int .i64 x2, .slice A0 l.length c0], .agg #[.int .i64 x0, .string x1, .int .i64 x2, .slice A1 l.length c1]] w fun e w' => e = .returned (.bool true) ∧ Below w.heap.size w w' := by
 have hu36 := Tryd.underlying36
 have IH := Aside0.mk ih
 have H0 := Aside0.mk h0
 have H1 := Aside0.mk h1
 have HB0 := Aside0.mk (below_alloc (below_alloc (Below.refl w.heap.size w) (.cells #[.int .i64 x0, .string x1, .int .i64 x2, .slice A0 l.length c0] 36)) (.cells #[.int .i64 x0, .string x1, .int .i64 x2, .slice A1 l.length c1] 36))
 clear ih h0 h1
 go_enter Tryd.func85, Tryd.ntmps85
 go_wp2_with fail
 refine (IH.out l A0 c0 A1 c1 _ (Kd.C_below H0.out HB0.out) hc0 (Kd.C_below H1.out HB0.out) hc1 hk).mono ?_
 rintro e w2 ⟨rfl, hb⟩
 have HB2 := Aside0.mk (below_step HB0.out hb)
 clear hb
 go_wp2
 go_ret
 exact ⟨rfl, HB2.out⟩
set_option maxHeartbeats 4000000 in
set_option maxRecDepth 100000 in
theorem sameI_calls : ∀ k, SameI k := by
 intro k
 induction k with
 | zero => intro l A0 c0 A1 c1 w _ _ _ _ h; simp [okD] at h
 | succ k ih =>
 intro l A0 c0 A1 c1 w h0 hc0 h1 hc1 hk
 have hu36 := Tryd.underlying36
 rw [okD, Bool.and_eq_true, decide_eq_true_eq, List.all_eq_true] at hk
 obtain ⟨hl, hall⟩ := hk
 have IH := Aside0.mk (eqT_calls k ih)
 have H0 := Aside0.mk h0
 have H1 := Aside0.mk h1
 have HA := Aside0.mk hall
 clear ih h0 h1 hall
 go_enter Tryd.func60, Tryd.ntmps60
 go_wp2_with fail
 go_loopg [5] l.length (fun kq v5 wr => ∃ i : Nat, v5 = .int .i64 i ∧ kq + i = l.length ∧ Aside0 (Below w.heap.size w wr))
 case atStart => exact ⟨0, rfl, by omega, ⟨Below.refl _ _⟩⟩
 case round =>
  obtain ⟨i, rfl, hki, HB⟩ := hrel
  cases gk with
  | zero =>
   obtain rfl : i = l.length := by omega
   go_wp2
   go_ret
   exact ⟨rfl, HB.out⟩
  | succ k1 =>
   have hi : i < l.length := by omega
   have hi0 : (0 : Int) ≤ (i : Int) := by omega
   have hi1 : (i : Int) < (l.length : Int) := by omega
   have d1 : decide ((i : Int) < (l.length : Int)) = true := decide_eq_true hi1
   obtain ⟨ad, A3, c3, rfl, e0, e1, e2, e3, l3, C3⟩ := at_T36 (Kd.C_below H0.out HB.out) (i : Int) hi0 hi1
   obtain ⟨ad', A4, c4, rfl, f0, f1, f2, f3, l4, C4⟩ := at_T36 (Kd.C_below H1.out HB.out) (i : Int) hi0 hi1
   have hok := HA.out (rd_T36 l i) (by simp [rd_T36, hi])
   simp only [Int.toNat_natCast] at e0 e1 e2 e3 f0 f1 f2 f3
   have tn : ((i : Int)).toNat = i := Int.toNat_natCast i
   have hw1 : wrap64 ((i : Int) + 1) = ((i + 1 : Nat) : Int) := by unfold wrap64; omega
   go_upto_region 6 with fail
   go_region_with (first | (go_at_call 85; refine (IH.out (rd_T36 l i).f0 (rd_T36 l i).f1 (rd_T36 l i).f2 (rd_T36 l i).f3 A3 c3 A4 c4 _ (Kd.C_drew C3) l3 (Kd.C_drew C4) l4 hok).mono ?_; rintro e w3 ⟨rfl, hb⟩; have HBn := Aside0.mk (below_step (below_drew1 HB.out) hb); clear hb))
   all_goals
    go_wp2
    go_roundg k1
    case measure => omega
    case rel => exact ⟨i + 1, by rfl, by omega, HBn⟩
def eqL : Nat → List S36 → List S36 → Bool
 | 0, _, _ => false
 | k + 1, a, b => decide (a.length = b.length) && decide (a.length ≤ 1000000) && (List.zip a b).all (fun p => decide (p.1.f0 = p.2.f0) && decide (p.1.f1 = p.2.f1) && decide (p.1.f2 = p.2.f2) && eqL k p.1.f3 p.2.f3)
theorem eqL_eq : ∀ (k : Nat) (a b : List S36), eqL k a b = true → a = b ∧ okD k a = true := by
 intro k
 induction k with
 | zero => intro a b h; simp [eqL] at h
 | succ k ih =>
  intro a b h
  rw [eqL, Bool.and_eq_true, Bool.and_eq_true, decide_eq_true_eq, decide_eq_true_eq, List.all_eq_true] at h
  obtain ⟨⟨hl, hm⟩, h⟩ := h
  have hx : ∀ (i : Nat) (h1 : i < a.length) (h2 : i < b.length), a[i] = b[i] ∧ okD k a[i].f3 = true := by
   intro i h1 h2
   have hz : (List.zip a b)[i]'(by rw [List.length_zip]; omega) = (a[i], b[i]) := List.getElem_zip
   have := h (a[i], b[i]) (by rw [← hz]; exact List.getElem_mem _)
   simp only [Bool.and_eq_true, decide_eq_true_eq] at this
   obtain ⟨⟨⟨e0, e1⟩, e2⟩, e3⟩ := this
   obtain ⟨e4, e5⟩ := ih _ _ e3
   refine ⟨?_, e5⟩
   generalize a[i] = x at e0 e1 e2 e4
   generalize b[i] = y at e0 e1 e2 e4
   cases x; cases y
   simp only at e0 e1 e2 e4
   rw [e0, e1, e2, e4]
  refine ⟨List.ext_getElem hl (fun i h1 h2 => (hx i h1 h2).1), ?_⟩
  rw [okD, Bool.and_eq_true, decide_eq_true_eq, List.all_eq_true]
  refine ⟨hm, fun x hxm => ?_⟩
  obtain ⟨i, hi, rfl⟩ := List.getElem_of_mem hxm
  exact (hx i hi (by omega)).2
theorem eqL_self : ∀ (k : Nat) (a : List S36), okD k a = true → eqL k a a = true := by
 intro k
 induction k with
 | zero => intro a h; simp [okD] at h
 | succ k ih =>
  intro a h
  rw [okD, Bool.and_eq_true, decide_eq_true_eq, List.all_eq_true] at h
  rw [eqL, Bool.and_eq_true, Bool.and_eq_true, decide_eq_true_eq, decide_eq_true_eq, List.all_eq_true]
  refine ⟨⟨rfl, h.1⟩, fun p hp => ?_⟩
  obtain ⟨i, hi, rfl⟩ := List.getElem_of_mem hp
  have hia : i < a.length := by rw [List.length_zip] at hi; omega
  rw [List.getElem_zip]
  simp only [Bool.and_eq_true, decide_eq_true_eq, true_and]
  exact ih _ (h.2 _ (List.getElem_mem hia))
end smi
end Go.Proofs.YtagkhoeidjlahaaDoor.G
namespace Go.Proofs.YtagkhoeidjlahaaDoor.G
open Go.RowKit Go.Proofs.YtagkhoeidjlahaaDoorW.PrintWords Go.Proofs.YtagkhoeidjlahaaDoorW.PrintLast Go.Proofs.YtagkhoeidjlahaaDoorW.PrintMore
attribute [local go_sem] max2_int min2_int max_two min_two max_three min_three max_four min_four
set_option linter.unusedVariables false
set_option linter.unusedSimpArgs false
def vinculumref09_SameItems.f (k : Nat) (l0 : List (S36)) (l1 : List (S36)) : Option Bool := if eqL k l0 l1 = true then some true else none
theorem vinculumref09_SameItems.calls (k : Nat) (A0 : Option Addr) (c0 : Nat) (l0 : List (S36)) (A1 : Option Addr) (c1 : Nat) (l1 : List (S36)) (r : Bool) (w : World) (hr0 : Kd.C k36 w A0 l0.length l0) (hc0 : l0.length ≤ c0) (hr1 : Kd.C k36 w A1 l1.length l1) (hc1 : l1.length ≤ c1) (h : vinculumref09_SameItems.f k l0 l1 = some r) :
  Calls Tryd.prog 60 #[.slice A0 l0.length c0, .slice A1 l1.length c1] w fun e w' => e = .returned (.bool r) ∧ Below w.heap.size w w' := by
 unfold vinculumref09_SameItems.f at h
 split at h
 ·
  rename_i hk
  obtain ⟨e1, e2⟩ := eqL_eq _ _ _ hk
  subst e1
  obtain rfl := Option.some.inj h
  exact sameI_calls k l0 A0 c0 A1 c1 w hr0 hc0 hr1 hc1 e2
 ·
  cases h
end Go.Proofs.YtagkhoeidjlahaaDoor.G
namespace Go.Proofs.YtagkhoeidjlahaaDoor.G.Pure
open Go.Proofs.YtagkhoeidjlahaaDoorW.PrintWords Go.RowKit
set_option linter.unusedVariables false
set_option linter.unusedSimpArgs false
def wlk : List Int → S36 → S36 × Bool
 | a :: b :: p, x => if 0 ≤ a ∧ a < x.f3.length then (if 0 ≤ b ∧ b < (rd_T36 x.f3 a).f3.length then wlk p (rd_T36 (rd_T36 x.f3 a).f3 b) else (z36, false)) else (z36, false)
 | p, x => (x, decide (p.length = 0))
theorem fnd_ev : ∀ (n : Nat) (p : List Int) (x : S36), p.length ≤ n → Ev (fun k => fnd k p x) (wlk p x) := by
 intro n
 induction n with
 | zero =>
  intro p x h
  obtain rfl : p = [] := List.eq_nil_of_length_eq_zero (by omega)
  refine Ev.step (fun k => by rw [fnd]) ?_
  exact ev_if (fun h => by simp at h) fun _ => ev_now rfl
 | succ n ih =>
  intro p x h
  refine Ev.step (fun k => by rw [fnd]) ?_
  match p with
  | [] => exact ev_if (fun h => by simp at h) fun _ => ev_now rfl
  | [a] => exact ev_if (fun h => by simp at h) fun _ => ev_now rfl
  | a :: b :: p =>
   refine ev_if (fun _ => ?_) fun h => by simp at h
   rw [wlk, show rd (a :: b :: p) 0 = a from rfl, show rd (a :: b :: p) 1 = b from rfl]
   refine ev_if (fun h1 => ?_) fun h1 => ev_now (by rw [if_neg h1])
   rw [if_pos h1]
   refine ev_if (fun h2 => ?_) fun h2 => ev_now (by rw [if_neg h2])
   rw [if_pos h2]
   exact ih p _ (by simp at h; omega)
def bare (y : S36 × Bool) : Int × ByteArray × Int × List S36 × Bool := (y.1.f0, y.1.f1, y.1.f2, y.1.f3, y.2)
theorem nrow_l : ∀ (n : Nat) (p : List Int) (x : S36), p.length ≤ n → Ev (fun k => node_row.l0 k p x.f0 x.f1 x.f2 x.f3) (bare (wlk p x)) := by
 intro n
 induction n with
 | zero =>
  intro p x h
  obtain rfl : p = [] := List.eq_nil_of_length_eq_zero (by omega)
  refine Ev.step (fun k => by rw [node_row.l0]) ?_
  exact ev_if (fun h => by simp at h) fun _ => ev_now rfl
 | succ n ih =>
  intro p x h
  refine Ev.step (fun k => by rw [node_row.l0]) ?_
  match p with
  | [] => exact ev_if (fun h => by simp at h) fun _ => ev_now rfl
  | [a] => exact ev_if (fun h => by simp at h) fun _ => ev_now rfl
  | a :: b :: p =>
   refine ev_if (fun _ => ?_) fun h => by simp at h; omega
   refine ev_if (fun _ => ?_) fun h => by simp at h; omega
   refine ev_if (fun _ => ?_) fun h => by simp at h; omega
   rw [wlk, show rd (a :: b :: p) 0 = a from rfl, show rd (a :: b :: p) 1 = b from rfl]
   refine ev_if (fun h1 => ev_now (by rw [if_neg (by omega)]; rfl)) fun h1 => ?_
   refine ev_if (fun h2 => ev_now (by rw [if_neg (by omega)]; rfl)) fun h2 => ?_
   rw [if_pos (by omega)]
   refine ev_if (fun h3 => ev_now (by rw [if_neg (by omega)]; rfl)) fun h3 => ?_
   refine ev_if (fun _ => ?_) fun h => absurd (by omega) h
   refine ev_if (fun _ => ?_) fun h => absurd (by omega) h
   refine ev_if (fun h4 => ev_now (by rw [if_neg (by omega)]; rfl)) fun h4 => ?_
   rw [if_pos (by omega)]
   refine ev_if (fun _ => ?_) fun h => absurd (by omega) h
   refine ev_if (fun _ => ?_) fun h => absurd (by omega) h
   refine ev_if (fun _ => ?_) fun h => by simp at h; omega
   exact ih p _ (by simp at h; omega)
theorem nrow_ev (p : List Int) (x : S36) : Ev (fun k => node_row.f k x.f0 x.f1 x.f2 x.f3 p) (bare (wlk p x)) := by
 unfold node_row.f
 exact nrow_l p.length p x (Nat.le_refl _)
theorem cntL_mem {l : List S36} {y : S36} (h : y ∈ l) : cnt y ≤ cntL l := by
 induction l with
 | nil => cases h
 | cons z l ih =>
  rw [cntL]
  rcases List.mem_cons.1 h with rfl | h
  ·
   omega
  ·
   have := ih h; omega
theorem len_cntL : ∀ (l : List S36), l.length ≤ cntL l
 | [] => by simp [cntL]
 | y :: l => by have := len_cntL l; have := cnt_pos y; rw [cntL, List.length_cons]; omega
theorem okD_of : ∀ (n : Nat) (l : List S36) (k : Nat), cntL l ≤ n → n ≤ 1000000 → n < k → okD k l = true := by
 intro n
 induction n with
 | zero =>
  intro l k h _ hk
  obtain ⟨k, rfl⟩ : ∃ j, k = j + 1 := ⟨k - 1, by omega⟩
  have := len_cntL l
  obtain rfl : l = [] := List.eq_nil_of_length_eq_zero (by omega)
  simp [okD]
 | succ n ih =>
  intro l k h hn hk
  obtain ⟨k, rfl⟩ : ∃ j, k = j + 1 := ⟨k - 1, by omega⟩
  have := len_cntL l
  rw [okD, Bool.and_eq_true, decide_eq_true_eq, List.all_eq_true]
  refine ⟨by omega, fun y hy => ih y.f3 k ?_ (by omega) (by omega)⟩
  have h1 := cntL_mem hy
  rw [cnt_eq] at h1
  omega
theorem rdT_cnt (l : List S36) (i : Int) (h0 : 0 ≤ i) (h1 : i < l.length) : cnt (rd_T36 l i) ≤ cntL l := by
 obtain ⟨n, rfl⟩ : ∃ n : Nat, i = n := ⟨i.toNat, by omega⟩
 rw [rdT_at l n (by omega)]
 exact cntL_mem (List.getElem_mem _)
theorem wlk_cnt : ∀ (n : Nat) (p : List Int) (x : S36), p.length ≤ n → cnt (wlk p x).1 ≤ cnt x := by
 have z1 : cnt z36 = 1 := by rw [cnt_eq]; rfl
 intro n
 induction n with
 | zero =>
  intro p x h
  obtain rfl : p = [] := List.eq_nil_of_length_eq_zero (by omega)
  exact Nat.le_refl _
 | succ n ih =>
  intro p x h
  match p with
  | [] => exact Nat.le_refl _
  | [a] => exact Nat.le_refl _
  | a :: b :: p =>
   have := cnt_pos x
   rw [wlk]
   split
   ·
    split
    ·
     rename_i h1 h2
     have q1 := ih p (rd_T36 (rd_T36 x.f3 a).f3 b) (by simp at h; omega)
     have q2 := rdT_cnt _ b h2.1 h2.2
     have q3 := rdT_cnt _ a h1.1 h1.2
     rw [cnt_eq (rd_T36 x.f3 a)] at q3
     rw [cnt_eq x]
     omega
    ·
     rw [z1]; omega
   ·
    rw [z1]; omega
def rowB (x : S36) (p : List Int) : S36 × Int := if validB x = true then (if (wlk p x).2 = true then ((wlk p x).1, 0) else (z36, 8)) else (z36, 1)
theorem rowB_cnt (x : S36) (p : List Int) : cnt (rowB x p).1 ≤ cnt x := by
 have z1 : cnt z36 = 1 := by rw [cnt_eq]; rfl
 have := cnt_pos x
 have := wlk_cnt p.length p x (Nat.le_refl _)
 unfold rowB
 split
 ·
  split
  ·
   assumption
  ·
   rw [z1]; omega
 ·
  rw [z1]; omega
theorem rRow_ev (x : S36) (hx : OkNode x) (hc : cnt x ≤ 100000) (p : List Int) : Ev (fun k => rRow k x p) (rowB x p) := by
 unfold rRow rowB
 refine ev_bind (rValid_ev x hx (by omega)) ?_
 refine ev_if (fun h => ?_) fun h => ev_now (by rw [if_neg h])
 rw [if_pos h]
 exact ev_bind (fnd_ev p.length p x (Nat.le_refl _)) (Ev.now _)
theorem nRow_ev (x : S36) (hx : OkNode x) (hc : cnt x ≤ 100000) (p : List Int) : Ev (fun k => node_Row.f k x.f0 x.f1 x.f2 x.f3 p) ((rowB x p).1.f0, (rowB x p).1.f1, (rowB x p).1.f2, (rowB x p).1.f3, (rowB x p).2) := by
 unfold node_Row.f rowB
 refine ev_bind (nValid_ev x hx) ?_
 refine ev_if (fun h => ?_) fun h => ev_now (by rw [if_neg h]; rfl)
 rw [if_pos h]
 refine ev_bind (nrow_ev p x) ?_
 refine ev_if (fun h2 => ?_) fun h2 => ev_now (by rw [if_neg (show ¬ (wlk p x).2 = true from h2)]; rfl)
 have h2' : (wlk p x).2 = true := h2
 rw [if_pos h2']
 have hw := wlk_cnt p.length p x (Nat.le_refl _)
 rw [cnt_eq (wlk p x).1] at hw
 refine ev_bind (a := ((wlk p x).1.f0, (wlk p x).1.f1, (wlk p x).1.f2, (wlk p x).1.f3)) ⟨100001, fun k hk => ?_⟩ (Ev.now _)
 show node_clone.f k (wlk p x).1.f0 (wlk p x).1.f1 (wlk p x).1.f2 (wlk p x).1.f3 = _
 unfold node_clone.f
 rw [if_pos (okD_of 100000 _ k (by omega) (by omega) (by omega))]
def itB (x : S36) (p : List Int) (a b : Int) : List S36 × Int := if (rowB x p).2 = 0 then (if outR (rowB x p).1.f3 a b = true then ([], 2) else (cutR (rowB x p).1.f3 a b, 0)) else ([], (rowB x p).2)
theorem rItems_ev (x : S36) (hx : OkNode x) (hc : cnt x ≤ 100000) (p : List Int) (a b : Int) : Ev (fun k => rItems k x p a b) (itB x p a b) := by
 unfold rItems itB
 exact ev_bind (rRow_ev x hx hc p) (Ev.now _)
theorem nItems_ev (x : S36) (hx : OkNode x) (hc : cnt x ≤ 100000) (p : List Int) (a b : Int) : Ev (fun k => selection_Items.f k x.f0 x.f1 x.f2 x.f3 p a b) (itB x p a b) := by
 unfold selection_Items.f itB
 refine ev_bind (nRow_ev x hx hc p) ?_
 dsimp only
 refine ev_if (fun h => ?_) fun h => ev_now (by rw [if_neg h])
 have h' : (rowB x p).2 = 0 := h
 rw [if_pos h']
 have ho : outR (rowB x p).1.f3 a b = (decide (a < 0) || decide (b < a) || decide (((rowB x p).1.f3.length : Int) < b)) := rfl
 have yes : (a < 0 ∨ b < a ∨ ((rowB x p).1.f3.length : Int) < b) → outR (rowB x p).1.f3 a b = true := fun h => by rw [ho]; simpa [or_assoc] using h
 refine ev_if (fun h1 => ev_now (by rw [if_pos (yes (.inl h1))])) fun h1 => ?_
 refine ev_if (fun h2 => ev_now (by rw [if_pos (yes (.inr (.inl h2)))])) fun h2 => ?_
 refine ev_if (fun h3 => ev_now (by rw [if_pos (yes (.inr (.inr h3)))])) fun h3 => ?_
 refine ev_if (fun _ => ?_) fun h => absurd (by omega) h
 refine ev_if (fun _ => ?_) fun h => absurd (by omega) h
 refine ev_if (fun _ => ev_now ?_) fun h => absurd (by omega) h
 rw [if_neg]
 ·
  rfl
 ·
  rw [ho]; simp only [Bool.or_eq_true, decide_eq_true_eq]; omega
theorem cutR_cnt (l : List S36) (a b : Int) : cntL (cutR l a b) ≤ cntL l := by
 have d : ∀ (n : Nat) (l : List S36), cntL (l.drop n) ≤ cntL l := by
  intro n
  induction n with
  | zero => intro l; simp
  | succ n ih =>
   intro l
   cases l with
   | nil => simp
   | cons y l => rw [List.drop_succ_cons, cntL]; have := ih l; omega
 have t : ∀ (n : Nat) (l : List S36), cntL (l.take n) ≤ cntL l := by
  intro n
  induction n with
  | zero => intro l; simp [cntL]
  | succ n ih =>
   intro l
   cases l with
   | nil => simp
   | cons y l => rw [List.take_succ_cons, cntL, cntL]; have := ih l; omega
 exact Nat.le_trans (d _ _) (t _ _)
theorem itB_cnt (x : S36) (p : List Int) (a b : Int) : cntL (itB x p a b).1 ≤ cnt x := by
 have h := rowB_cnt x p
 rw [cnt_eq (rowB x p).1] at h
 have := cutR_cnt (rowB x p).1.f3 a b
 have z : cntL ([] : List S36) = 0 := by simp [cntL]
 unfold itB
 split
 ·
  split
  ·
   rw [z]; omega
  ·
   simp only; omega
 ·
  rw [z]; omega
theorem sameI_ev (l : List S36) (h : cntL l ≤ 100000) : Ev (fun k => vinculumref09_SameItems.f k l l) true := by
 refine ⟨100001, fun k hk => ?_⟩
 show vinculumref09_SameItems.f k l l = _
 unfold vinculumref09_SameItems.f
 rw [if_pos (eqL_self k l (okD_of 100000 l k h (by omega) (by omega)))]
end Go.Proofs.YtagkhoeidjlahaaDoor.G.Pure
namespace Go.Proofs.YtagkhoeidjlahaaDoor.G.Pure
open Go.Proofs.YtagkhoeidjlahaaDoorW.PrintWords Go.RowKit
set_option linter.unusedVariables false
set_option linter.unusedSimpArgs false
theorem few11_ev (x : S36) (hx : OkNode x) (a b : List Int) : Ev (fun k => vinculumlaw11_few.f k x.f0 x.f1 x.f2 x.f3 a b) (decide (cnt x ≤ 100 ∧ a.length ≤ 60 ∧ b.length ≤ 60)) := by
 unfold vinculumlaw11_few.f
 refine ev_bind (few_ev x hx 100 (by omega) (by omega)) ?_
 refine ev_if (fun h => ?_) fun h => ev_now ?_
 ·
  rw [decide_eq_true_eq] at h
  refine ev_if (fun h2 => ev_now ?_) fun h2 => ev_now ?_
  ·
   rw [decide_eq_decide]; omega
  ·
   exact (decide_eq_false (by omega)).symm
 ·
  rw [decide_eq_true_eq] at h
  exact (decide_eq_false (by omega)).symm
end Go.Proofs.YtagkhoeidjlahaaDoor.G.Pure
