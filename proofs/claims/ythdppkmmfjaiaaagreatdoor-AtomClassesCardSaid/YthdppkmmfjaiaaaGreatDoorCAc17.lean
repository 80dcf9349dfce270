-- Written by pack2.py, a program of this session: this session's texts and those that the kit's printer wrote for this claim, pruned to what the claims use.
import Derived.Test.YthdppkmmfjaiaaaGreatDoorCAc2
import Derived.Test.YthdppkmmfjaiaaaGreatDoorCAc16
import Derived.Test.YthdppkmmfjaiaaaGreatDoorCAc13
import Derived.Test.YthdppkmmfjaiaaaGreatDoorCAc15
import Derived.Test.YthdppkmmfjaiaaaGreatDoorCAc6
namespace Go.Proofs.YthdppkmmfjaiaaaGreatDoor.G
open Go.RowKit Go.Proofs.YthdppkmmfjaiaaaGreatDoorW.PrintWords Go.Proofs.YthdppkmmfjaiaaaGreatDoorW.PrintLast Go.Proofs.YthdppkmmfjaiaaaGreatDoorW.PrintMore
attribute [local go_sem] max2_int min2_int max_two min_two max_three min_three max_four min_four
set_option linter.unusedVariables false
set_option linter.unusedSimpArgs false
def opdict_Valid.f (l0 : List (S75)) : Option Bool := if l0.length < 17592186044416 then some (validD l0) else none
open Go.Maps Go.WideMaps in
set_option maxHeartbeats 2000000 in
set_option maxRecDepth 100000 in

theorem opdict_Valid.calls (A0 : Option Addr) (c0 : Nat) (l0 : List (S75)) (r : Bool) (w : World) (hr0 : Kd.C k75 w A0 l0.length l0) (hc0 : l0.length ≤ c0) (h : opdict_Valid.f l0 = some r) :
    Calls Tryz.prog 19 #[.slice A0 l0.length c0] w fun e w' => e = .returned (.bool r) ∧ Below w.heap.size w w' := by
  unfold opdict_Valid.f at h
  split at h
  case isFalse => cases h
  rename_i hlen
  obtain rfl := Option.some.inj h
  have HR := Aside0.mk hr0
  have HC := Aside0.mk hc0
  have hmm := @run_makeMap Tryz.prog
  have hu := Tryz.underlying75
  have law9 : Keyed Tryz.prog 9 := string_keyed (show Tryz.prog.underlying 9 = some .string from by kernel_rfl)
  have u9 : Tryz.prog.underlying 9 = some .string := by kernel_rfl
  have uM : Tryz.prog.underlying 73 = some (.map 9 4) := by kernel_rfl
  have u4 : Tryz.prog.underlying 4 = some .bool := by kernel_rfl
  clear hr0 hc0 h
  go_enter Tryz.func19, Tryz.ntmps19
  go_wp2_with fail
  go_loopg [5, 9] l0.length (fun gg _ v9 wr => ∃ kk : Nat, kk ≤ l0.length ∧ l0.length - kk ≤ gg ∧ v9 = .int .i64 kk ∧ Aside0 (wr.ownsMap Tryz.prog 9 (plainElem Tryz.prog 4) w.heap.size kk (setE (l0.take kk))) ∧ Aside0 (Below w.heap.size w wr) ∧ Aside0 ((l0.take kk).all (fun x => properB x.f0 x.f1) = true))
  case atStart => exact ⟨0, Nat.zero_le _, by omega, rfl, ⟨World.ownsMap_made _ _ _ _⟩, ⟨below_alloc (Below.refl _ _) _⟩, ⟨rfl⟩⟩
  case round =>
    obtain ⟨kk, hkk, hgk, rfl, HO, HB, HA⟩ := hrel
    by_cases hlt : kk < l0.length
    · have hd : decide ((kk : Int) < (l0.length : Int)) = true := decide_eq_true (by omega)
      obtain ⟨ad, e0, q0, q1, q2, q3⟩ := at_T75 (Kd.C_below HR.out HB.out) (kk : Int) (by omega) (by omega)
      subst e0
      simp only [Int.toNat_natCast] at q0 q1 q2 q3
      have hx : rd_T75 l0 (kk : Int) = l0[kk] := rdE hlt
      obtain ⟨x, hX⟩ : ∃ x, rd_T75 l0 (kk : Int) = x := ⟨_, rfl⟩
      rw [hX] at q0 q1 q2 q3
      have HX := Aside0.mk (hx.symm.trans hX)
      clear hx hX
      obtain ⟨b, hb⟩ : ∃ b, properB x.f0 x.f1 = b := ⟨_, rfl⟩
      have HP := Aside0.mk hb
      have HCALL := Aside0.mk (fun W => proper_calls x.f0 x.f1 x.f2 x.f3 W)
      rw [hb] at HCALL
      clear hb
      cases b with
      | false =>
        have HF : Aside0 (validD l0 = false) := ⟨by
          unfold validD
          have : l0.all (fun x => properB x.f0 x.f1) = false := List.all_eq_false.2 ⟨x, HX.out ▸ List.getElem_mem hlt, by rw [HP.out]; simp⟩
          rw [this]
          rfl⟩
        go_wp2_with fail
        refine (HCALL.out _).mono ?_
        rintro e w2 ⟨rfl, hb⟩
        have HB2 := Aside0.mk (below_step (below_alloc HB.out _) hb)
        clear hb
        go_wp2
        go_ret
        exact ⟨by rw [HF.out]; rfl, HB2.out⟩
      | true =>
        have hkey : keyOf Tryz.prog 9 (.string x.f0) = some (.string x.f0.data.toList) := keyOf_string_mk u9 (by
          have h := HP.out
          unfold properB at h
          simp only [Bool.and_eq_true, decide_eq_true_eq] at h
          unfold maxLen
          omega)
        have HTK : Aside0 (l0.take (kk + 1) = l0.take kk ++ [x]) := ⟨by rw [List.take_add_one, List.getElem?_eq_getElem hlt, HX.out]; rfl⟩
        go_wp2_with fail
        refine (HCALL.out _).mono ?_
        rintro e w2 ⟨rfl, hb⟩
        have X2 := blk_below (blk_new wr (.cells #[.string x.f0, .int .i64 x.f1, .bool x.f2, .bool x.f3] 75)) hb
        have x0 := (blk_cell X2 0).trans rfl
        have HO2 := Aside0.mk (ownsMap_below (HO.out.alloc (.cells #[.string x.f0, .int .i64 x.f1, .bool x.f2, .bool x.f3] 75)) hb)
        have HB2 := Aside0.mk (below_step (below_alloc HB.out _) hb)
        clear hb X2
        go_wp2_with (first
          | (at_mapUpdate; refine wpList_mapUpdate_own _ rfl _ _ _ 73 rfl 9 4 law9 uM (plainElem (H := Unit) Tryz.prog 4) w.heap.size kk _ rfl HO2.out (by unfold maxLen; omega) _ _ _ rfl rfl hkey _ [] (plainElem_bool u4 true) ?_; intro w3 hown1 hgrow1; have HO3 := Aside0.mk hown1; have HB3 := Aside0.mk (HB2.out.grown hgrow1 HB2.out.size (fun j hj => by cases hj; exact Nat.le_refl _)); clear hown1 hgrow1)
          | go_in)
        go_roundg (l0.length - (kk + 1))
        case measure => omega
        case rel =>
          refine ⟨kk + 1, by omega, Nat.le_refl _, by go_num, ⟨?_⟩, HB3, ⟨?_⟩⟩
          · rw [HTK.out, setE_snoc]
            exact HO3.out
          · rw [HTK.out, List.all_append, HA.out]
            simp [HP.out]
    · have hd : decide ((kk : Int) < (l0.length : Int)) = false := decide_eq_false (by omega)
      obtain rfl : kk = l0.length := by omega
      rw [List.take_length] at HO HA
      have HE := Aside0.mk (validD_end l0 HA.out)
      by_cases h2 : l0.length ≤ 200
      · have d2 : decide ((l0.length : Int) ≤ 200) = true := decide_eq_true (by omega)
        have hln := fun ty => HO.out.len uM ty
        go_wp2
        go_ret
        exact ⟨by rw [HE.out, decide_eq_true h2, Bool.true_and]; rfl, HB.out⟩
      · have d2 : decide ((l0.length : Int) ≤ 200) = false := decide_eq_false (by omega)
        go_wp2
        go_ret
        exact ⟨by rw [HE.out, decide_eq_false h2]; rfl, HB.out⟩
end Go.Proofs.YthdppkmmfjaiaaaGreatDoor.G
namespace Go.Proofs.YthdppkmmfjaiaaaGreatDoor.G.Pure
open Go.Proofs.YthdppkmmfjaiaaaGreatDoorW.PrintWords Go.RowKit
set_option linter.unusedVariables false
set_option linter.unusedSimpArgs false
theorem okE_open {x : S75} (h : OkEntry x) : x.f0.size ≤ M := h.1
theorem ba_toList {x y : ByteArray} : x.toList = y.toList ↔ x = y := by
  rw [toList_L, toList_L]
  constructor
  · intro h; cases x; cases y; unfold L at h; simpa using h
  · rintro rfl; rfl
theorem dupFree_iff : ∀ (l : List ByteArray), dupFree l = true ↔ l.Pairwise (fun x y => ¬ x = y)
  | [] => by simp [dupFree]
  | x :: l => by
    rw [dupFree, List.pairwise_cons, ← dupFree_iff l, Bool.and_eq_true]
    refine and_congr_left fun _ => ?_
    simp only [Bool.not_eq_true', List.any_eq_false, decide_eq_true_eq]
    exact ⟨fun h y hy e => h y hy e.symm, fun h y hy e => h y hy e.symm⟩
theorem validD_iff (l : List S75) : validD l = true ↔ (∀ (a : Nat) (h : a < l.length), properB l[a].f0 l[a].f1 = true) ∧ l.length ≤ 200 ∧ ∀ (a b : Nat) (h : b < l.length) (hab : a < b), ¬ (l[a]'(by omega)).f0 = l[b].f0 := by
  unfold validD
  rw [Bool.and_eq_true, Bool.and_eq_true, decide_eq_true_eq, dupFree_iff, List.pairwise_map, List.pairwise_iff_getElem, List.all_eq_true, and_assoc]
  refine and_congr ⟨fun h a ha => h _ (List.getElem_mem ha), fun h x hx => ?_⟩ (and_congr_right fun _ => ⟨fun h a b hb hab => h a b (by omega) hb hab, fun h a b _ hb hab => h a b hb hab⟩)
  obtain ⟨a, ha, rfl⟩ := List.getElem_of_mem hx
  exact h a ha
theorem pValid08_eq (l : List S75) (hl : l.length ≤ 1000000) : opdict_Valid.f l = some (validD l) := by
  unfold opdict_Valid.f
  rw [if_pos (by omega)]
def findT (t : ByteArray) : List S75 → ByteArray × Int × Bool × Bool
  | [] => (t, 0, false, false)
  | x :: l => if x.f0.toList = t.toList then (x.f0, x.f1, x.f2, x.f3) else findT t l
theorem idx_find (t : ByteArray) : ∀ (l : List S75) (i : Int), (idxE t l i = -1 ∧ findT t l = (t, 0, false, false)) ∨ ∃ (j : Nat) (h : j < l.length), idxE t l i = i + j ∧ findT t l = (l[j].f0, l[j].f1, l[j].f2, l[j].f3)
  | [], i => .inl ⟨rfl, rfl⟩
  | x :: l, i => by
    unfold idxE findT
    by_cases h : x.f0.toList = t.toList
    · rw [if_pos h, if_pos h]
      exact .inr ⟨0, by simp, by simp, rfl⟩
    · rw [if_neg h, if_neg h]
      rcases idx_find t l (i + 1) with ⟨h1, h2⟩ | ⟨j, hj, h1, h2⟩
      · exact .inl ⟨h1, h2⟩
      · exact .inr ⟨j + 1, by simpa using hj, by rw [h1]; push_cast; omega, by simpa using h2⟩
theorem pFind_eq (l : List S75) (t : ByteArray) (hl : l.length ≤ 1000000) : opdict_Find.f l t = some (findT t l) := by
  unfold opdict_Find.f opdict_index.f
  rw [if_pos (by omega), Option.bind_some]
  rcases idx_find t l 0 with ⟨h1, h2⟩ | ⟨j, hj, h1, h2⟩
  · rw [h1, h2, if_neg (by omega)]
  · rw [h1, h2, if_pos (by omega), if_pos (by omega), if_pos (by omega), Int.zero_add, rdE hj]
theorem rFind_ev (l : List S75) (t : ByteArray) (hl : l.length ≤ 1000000) : Ev (fun k => vinculumref08_Find.f k l t) (findT t l) := by
  have key : ∀ (m i : Nat), l.length - i = m → Ev (fun k => vinculumref08_Find.l0 k l t i) (findT t (l.drop i)) := by
    intro m
    induction m with
    | zero =>
      intro i hi
      refine Ev.step (fun k => by rw [vinculumref08_Find.l0]) ?_
      refine ev_if (fun h => by omega) fun _ => ev_now ?_
      rw [List.drop_eq_nil_of_le (by omega)]; rfl
    | succ m ih =>
      intro i hi
      refine Ev.step (fun k => by rw [vinculumref08_Find.l0]) ?_
      refine ev_if (fun _ => ?_) fun h => by omega
      refine ev_if (fun _ => ?_) fun h => by omega
      rw [List.drop_eq_getElem_cons (by omega), findT, rdE (by omega)]
      refine ev_if (fun h => ev_now ?_) fun h => ?_
      · rw [if_pos h]
      · rw [if_neg h, wr (n := (i : Int) + 1) (by omega)]
        exact_mod_cast ih (i + 1) (by omega)
  exact_mod_cast key l.length 0 rfl
theorem cnt_slot {x : S48} (h : 0 < x.f3.length) (h1 : (rd_T48 x.f3 0).f3.length = 1) : cnt (rd_T48 (rd_T48 x.f3 0).f3 0) < cnt x := by
  have e0 : rd_T48 x.f3 0 = x.f3[0] := rdT_at x.f3 0 h
  rw [e0] at h1 ⊢
  have e1 : rd_T48 x.f3[0].f3 0 = x.f3[0].f3[0] := rdT_at _ 0 (by omega)
  rw [e1, cnt_eq x]
  have a := cntL_mem (List.getElem_mem h)
  have b := cntL_mem (List.getElem_mem (show 0 < x.f3[0].f3.length by omega))
  rw [cnt_eq x.f3[0]] at a
  omega
theorem cls_some (d : List S75) (hd : d.length ≤ 1000000) : ∀ (n : Nat) (x : S48), cnt x < n → ∃ v, cls d n x = some v := by
  intro n
  induction n with
  | zero => intro x h; omega
  | succ n ih =>
    intro x hn
    rw [cls, pFind_eq _ _ hd]
    by_cases h2 : x.f0 = 2
    · rw [if_pos h2]; exact ⟨_, rfl⟩
    rw [if_neg h2]
    by_cases h7 : x.f0 = 7 ∨ x.f0 = 8 ∨ x.f0 = 9
    · rw [if_pos h7]
      by_cases hl : 0 < x.f3.length
      · rw [if_pos hl]
        by_cases h1 : (rd_T48 x.f3 0).f3.length = 1
        · rw [if_pos h1]
          exact ih _ (by have := cnt_slot hl h1; omega)
        · rw [if_neg h1]; exact ⟨_, rfl⟩
      · rw [if_neg hl]; exact ⟨_, rfl⟩
    rw [if_neg h7]
    by_cases h5 : x.f0 = 5 ∨ x.f0 = 11 ∨ x.f0 = 12
    · rw [if_pos h5]; exact ⟨_, rfl⟩
    · rw [if_neg h5]; exact ⟨_, rfl⟩
theorem cls_le (d : List S75) {n m : Nat} {x : S48} {v : Int} (h : n ≤ m) (hv : cls d n x = some v) : cls d m x = some v := at_rounds (fun k => cls.mono d k x) h hv
def classV (d : List S75) (x : S48) : Int := (cls d (cnt x + 1) x).getD 0
theorem cls_fuel (d : List S75) (hd : d.length ≤ 1000000) {n : Nat} {x : S48} (h : cnt x < n) : cls d n x = some (classV d x) := by
  obtain ⟨v, hv⟩ := cls_some d hd (cnt x + 1) x (by omega)
  unfold classV
  rw [hv]
  exact cls_le d h hv
theorem classV_eq (d : List S75) (hd : d.length ≤ 1000000) (x : S48) : classV d x = if x.f0 = 2 then (findT x.f1 d).2.1 else if x.f0 = 7 ∨ x.f0 = 8 ∨ x.f0 = 9 then (if 0 < x.f3.length then (if (rd_T48 x.f3 0).f3.length = 1 then classV d (rd_T48 (rd_T48 x.f3 0).f3 0) else 0) else 0) else if x.f0 = 5 ∨ x.f0 = 11 ∨ x.f0 = 12 then 7 else 0 := by
  have h := cls_fuel d hd (show cnt x < cnt x + 1 by omega)
  apply Option.some.inj
  rw [← h, cls, pFind_eq _ _ hd]
  by_cases h2 : x.f0 = 2
  · rw [if_pos h2, if_pos h2]; rfl
  rw [if_neg h2, if_neg h2]
  by_cases h7 : x.f0 = 7 ∨ x.f0 = 8 ∨ x.f0 = 9
  · rw [if_pos h7, if_pos h7]
    by_cases hl : 0 < x.f3.length
    · rw [if_pos hl, if_pos hl]
      by_cases h1 : (rd_T48 x.f3 0).f3.length = 1
      · rw [if_pos h1, if_pos h1]
        exact cls_fuel d hd (cnt_slot hl h1)
      · rw [if_neg h1, if_neg h1]
    · rw [if_neg hl, if_neg hl]
  rw [if_neg h7, if_neg h7]
  by_cases h5 : x.f0 = 5 ∨ x.f0 = 11 ∨ x.f0 = 12
  · rw [if_pos h5, if_pos h5]
  · rw [if_neg h5, if_neg h5]
theorem pClass_ev (d : List S75) (hd : d.length ≤ 1000000) (x : S48) : Ev (fun k => atom_Class.f k d x.f0 x.f1 x.f2 x.f3) (classV d x) := by
  refine Ev.congr (f := fun k => cls d k x) (fun k => by unfold atom_Class.f; rw [node_eta]) ?_
  exact ⟨cnt x + 1, fun k hk => cls_fuel d hd (by omega)⟩
theorem rClass_ev (d : List S75) (hd : d.length ≤ 1000000) : ∀ (n : Nat) (x : S48), cnt x ≤ n → Ev (fun k => vinculumref26_Class.f k d x.f0 x.f1 x.f2 x.f3) (classV d x) := by
  intro n
  induction n with
  | zero => intro x h; have := cnt_pos x; omega
  | succ n ih =>
    intro x hn
    have slot : Ev (fun k => vinculumref26_Class.j0 k d x.f0 true x.f0 x.f1 x.f2 x.f3) (if 0 < x.f3.length then (if (rd_T48 x.f3 0).f3.length = 1 then classV d (rd_T48 (rd_T48 x.f3 0).f3 0) else 0) else 0) := by
      refine Ev.step (fun k => by rw [vinculumref26_Class.j0]) ?_
      refine ev_if (fun _ => ?_) fun h => absurd rfl h
      refine ev_if (fun hl => ?_) fun hl => ev_now (by rw [if_neg (by omega)])
      refine ev_if (fun _ => ?_) fun h => by omega
      rw [if_pos (show 0 < x.f3.length by omega)]
      refine ev_if (fun h1 => ?_) fun h1 => ev_now (by rw [if_neg (by omega)])
      refine ev_if (fun _ => ?_) fun h => by omega
      rw [if_pos (by omega)]
      exact ev_bind (ih _ (by have := cnt_slot (x := x) (by omega) (by omega); omega)) (Ev.now _)
    have e := classV_eq d hd x
    refine Ev.step (fun k => by rw [vinculumref26_Class.f]) ?_
    refine ev_if (fun h2 => ?_) fun h2 => ?_
    · rw [e, if_pos h2]
      exact ev_bind (rFind_ev d x.f1 hd) (Ev.now _)
    rw [if_neg h2] at e
    by_cases h7 : x.f0 = 7 ∨ x.f0 = 8 ∨ x.f0 = 9
    · rw [if_pos h7] at e
      rw [e]
      refine ev_if (fun h => ?_) fun h => ?_
      · rw [show (x.f0 == 7) = true by simpa using h]; exact slot
      refine ev_if (fun h' => ?_) fun h' => ?_
      · rw [show (x.f0 == 8) = true by simpa using h']; exact slot
      · rw [show (x.f0 == 9) = true by simp; omega]; exact slot
    rw [if_neg h7] at e
    rw [e]
    refine ev_if (fun h => by omega) fun _ => ?_
    refine ev_if (fun h => by omega) fun _ => ?_
    rw [show (x.f0 == 9) = false by simp; omega]
    refine Ev.step (fun k => by rw [vinculumref26_Class.j0]) ?_
    refine ev_if (fun h => by cases h) fun _ => ?_
    refine ev_if (fun h => ev_now (by rw [if_pos (.inl h)])) fun h5 => ?_
    refine ev_if (fun h => ev_now (by rw [if_pos (.inr (.inl h))])) fun h11 => ?_
    refine ev_if (fun h => ev_now (by rw [if_pos (.inr (.inr h))])) fun h12 => ev_now ?_
    rw [if_neg (by omega)]
end Go.Proofs.YthdppkmmfjaiaaaGreatDoor.G.Pure
namespace Go.Proofs.YthdppkmmfjaiaaaGreatDoor.G
open Go.RowKit Go.Proofs.YthdppkmmfjaiaaaGreatDoorW.PrintWords Go.Proofs.YthdppkmmfjaiaaaGreatDoorW.PrintLast Go.Proofs.YthdppkmmfjaiaaaGreatDoorW.PrintMore
attribute [local go_sem] max2_int min2_int max_two min_two max_three min_three max_four min_four
set_option linter.unusedVariables false
set_option linter.unusedSimpArgs false
def node_ValidItems.f (k : Nat) (l0 : List (S48)) : Option (Bool) := (node_Valid.f k 1 (⟨#[]⟩ : ByteArray) 0 l0).bind fun t129 => (some t129)
set_option maxHeartbeats 8000000 in
set_option maxRecDepth 100000 in
theorem node_ValidItems.calls (k : Nat) (A0 : Option Addr) (c0 : Nat) (l0 : List (S48)) (r : Bool) (w : World) (hr0 : Kd.C k48 w A0 l0.length l0) (hc0 : l0.length ≤ c0) (h : node_ValidItems.f k l0 = some r) :
    Calls Tryz.prog 20 #[.slice A0 l0.length c0] w fun e w' => e = .returned (.bool r) ∧ Below w.heap.size w w' := by
  have hu48 := Tryz.underlying48
  have HR0 := Aside0.mk hr0
  have HC0 := Aside0.mk hc0
  clear hr0 hc0
  have HB := Aside0.mk (Below.refl w.heap.size w)
  have H : ((node_Valid.f k 1 (⟨#[]⟩ : ByteArray) 0 l0).bind fun t129 => (some t129)) = some r := h
  clear h
  replace H := Option.bind_eq_some_iff.mp H
  obtain ⟨t129, A20, H⟩ := H
  replace H : (some t129) = some r := H
  have A2 := Aside0.mk A20
  clear A20
  obtain rfl := Option.some.inj H
  go_enter Tryz.func20, Tryz.ntmps20
  go_wp2_with (first | ((with_reducible refine gate_callee (f := 39) rfl ?_); refine goesL_ (some 5) rfl rfl Tryz.func39 (by kernel_rfl) rfl #[.agg #[.int .i64 1, .string (⟨#[]⟩ : ByteArray), .int .i64 0, .slice A0 l0.length c0]] rfl (by (try simp only [List.map_toArray, List.map_cons, List.map_nil]); first | done | rfl | (simp only [List.length_drop, List.length_take]; rfl)) ?_; (with_reducible refine (node_Valid.calls k 1 (⟨#[]⟩ : ByteArray) 0 _ _ l0 t129 _ ?side1 ?side2 A2.out).mono ?_); (case side1 => repeat (first | exact HR0.out | (with_reducible refine Kd.C_alloc ?_ _) | (with_reducible refine Kd.C_drewN ?_ _) | (with_reducible refine Kd.C_drew ?_))); (case side2 => exact HC0.out); rintro e w3 ⟨rfl, hb⟩; refine ⟨_, rfl, ?_⟩; have n0_ := Aside0.mk (below_step (by repeat (first | (with_reducible first | exact HB.out | apply below_alloc | apply pw_below_drewN | apply below_drew1) | exact HB.out)) hb); clear HB; have HB := n0_; clear n0_; (try clear hb); (try clear hb2); (try clear hk); (try clear hi)))
  go_ret
  exact ⟨by first | rfl | (simp [errW_none, errW_some] <;> rfl) | (simp [*, errW_none, errW_some] <;> rfl), by repeat (first | (with_reducible first | exact HB.out | apply below_alloc | apply pw_below_drewN | apply below_drew1) | exact HB.out)⟩
end Go.Proofs.YthdppkmmfjaiaaaGreatDoor.G
namespace Go.Proofs.YthdppkmmfjaiaaaGreatDoor.G
open Go.RowKit Go.Proofs.YthdppkmmfjaiaaaGreatDoorW.PrintWords Go.Proofs.YthdppkmmfjaiaaaGreatDoorW.PrintLast Go.Proofs.YthdppkmmfjaiaaaGreatDoorW.PrintMore
attribute [local go_sem] max2_int min2_int max_two min_two max_three min_three max_four min_four
set_option linter.unusedVariables false
set_option linter.unusedSimpArgs false
def atom_in.l0 : Nat → Int → List Int → Int → Int → Option (Bool)
  | 0, _, _, _, _ => none
  | k + 1, x0, x7, x8, x9 => if x9 < x8 then (if 0 ≤ x9 then (if x9 < (x7.length : Int) then (if (rd x7 x9) = x0 then (some true) else (atom_in.l0 k x0 x7 x8 (wrap64 (x9 + 1)))) else (none)) else (none)) else (some false)
def atom_in.f (k : Nat) (a0 : Int) (l1 : List Int) : Option (Bool) := atom_in.l0 k a0 l1 (l1.length : Int) 0
set_option maxHeartbeats 8000000 in
set_option maxRecDepth 100000 in
theorem atom_in.calls (k : Nat) (a0 : Int) (A1 : Option Addr) (c1 : Nat) (l1 : List Int) (r : Bool) (w : World) (hr1 : Kd.C (Kd.int .i64) w A1 l1.length l1) (hc1 : l1.length ≤ c1) (h : atom_in.f k a0 l1 = some r) :
    Calls Tryz.prog 22 #[.int .i64 a0, .slice A1 l1.length c1] w fun e w' => e = .returned (.bool r) ∧ Drawn0 w w' := by
  have HR1 := Aside0.mk hr1
  have HC1 := Aside0.mk hc1
  clear hr1 hc1
  have H : (atom_in.l0 k a0 l1 (l1.length : Int) 0) = some r := h
  clear h
  have H' := Aside0.mk H
  clear H
  go_enter Tryz.func22, Tryz.ntmps22
  go_wp2
  go_loopg [9] k (fun kq v9 w' => ∃ (x9_1 : Int), v9 = .int .i64 x9_1 ∧ Aside0 (atom_in.l0 kq a0 l1 (l1.length : Int) x9_1 = some r) ∧ Aside0 (kq ≤ k) ∧ Drawn0 w w')
  case atStart => exact ⟨(0), (by first | rfl | (simp; done) | (simp [*]; done)), H', ⟨Nat.le_refl _⟩, by repeat (first | exact Drawn0.refl _ | apply Drawn0.step)⟩
  case round =>
    clear H'
    try clear c1
    try clear c2
    try clear p2
    obtain ⟨x9_1, rfl, HA, HK1, ⟨m1, rfl⟩⟩ := hrel
    cases gk with
    | zero => exact absurd HA.out (by simp [atom_in.l0])
    | succ k1 =>
      have H := HA.out
      clear HA
      simp only [atom_in.l0] at H
      by_cases c3 : x9_1 < (l1.length : Int)
      · rw [if_pos c3] at H
        have c3b0 : decide (x9_1 < (l1.length : Int)) = true := decide_eq_true c3
        clear c3
        by_cases c4 : 0 ≤ x9_1
        · rw [if_pos c4] at H
          have c4b0 : decide (0 ≤ x9_1) = true := decide_eq_true c4
          clear c4
          by_cases c5 : x9_1 < (l1.length : Int)
          · rw [if_pos c5] at H
            have c5b0 : decide (x9_1 < (l1.length : Int)) = true := decide_eq_true c5
            clear c5
            by_cases c6 : (rd l1 x9_1) = a0
            · rw [if_pos c6] at H
              have c6b0 : ((rd l1 x9_1) == a0) = true := beq_iff_eq.mpr c6
              have c6b1 : ((rd l1 x9_1) != a0) = false := bne_eq_false_iff_eq.mpr c6
              clear c6
              obtain rfl := Option.some.inj H
              have p133 : 0 ≤ (x9_1 : Int) := of_decide_eq_true (by first | (with_reducible assumption) | assumption)
              have q133 : x9_1 < (l1.length : Int) := of_decide_eq_true (by first | (with_reducible assumption) | assumption)
              obtain ⟨ad133, e133, hx133_0⟩ := Kd.at_int HR1.out x9_1 p133 q133
              cases e133
              replace p133 := eq_true p133
              replace q133 := eq_true q133
              go_wp2
              go_ret
              exact ⟨by first | rfl | (simp; done) | (simp [*]; done), by repeat (first | exact Drawn0.refl _ | apply Drawn0.step)⟩
            · rw [if_neg c6] at H
              have c6b0 : ((rd l1 x9_1) == a0) = false := beq_eq_false_iff_ne.mpr c6
              have c6b1 : ((rd l1 x9_1) != a0) = true := bne_iff_ne.mpr c6
              have H' := Aside0.mk H
              clear H
              have p133 : 0 ≤ (x9_1 : Int) := of_decide_eq_true (by first | (with_reducible assumption) | assumption)
              have q133 : x9_1 < (l1.length : Int) := of_decide_eq_true (by first | (with_reducible assumption) | assumption)
              obtain ⟨ad133, e133, hx133_0⟩ := Kd.at_int HR1.out x9_1 p133 q133
              cases e133
              replace p133 := eq_true p133
              replace q133 := eq_true q133
              go_wp2
              go_roundg k1
              case measure => have := HK1.out; omega
              case rel => exact ⟨(wrap64 (x9_1 + 1)), (by first | rfl | (simp; done) | (simp [*]; done)), H', ⟨by have := HK1.out; omega⟩, by repeat (first | exact Drawn0.refl _ | apply Drawn0.step)⟩
          · rw [if_neg c5] at H
            exact absurd H (by simp)
        · rw [if_neg c4] at H
          exact absurd H (by simp)
      · rw [if_neg c3] at H
        have c3b0 : decide (x9_1 < (l1.length : Int)) = false := decide_eq_false c3
        clear c3
        obtain rfl := Option.some.inj H
        go_wp2
        go_ret
        exact ⟨by first | rfl | (simp; done) | (simp [*]; done), by repeat (first | exact Drawn0.refl _ | apply Drawn0.step)⟩
end Go.Proofs.YthdppkmmfjaiaaaGreatDoor.G
