-- Written by pack2.py: this session's texts and the printer's, pruned.
import Derived.Test.YtagkhoeidjlahaaDoorCSe2
import Derived.StillTailTactics
namespace Go.Proofs.YtagkhoeidjlahaaDoor.G
open Go.RowKit Go.Proofs.YtagkhoeidjlahaaDoorW.PrintWords Go.Proofs.YtagkhoeidjlahaaDoorW.PrintLast Go.Proofs.YtagkhoeidjlahaaDoorW.PrintMore
attribute [local go_sem] max2_int min2_int max_two min_two max_three min_three max_four min_four
set_option linter.unusedVariables false
set_option linter.unusedSimpArgs false
section cln
set_option maxHeartbeats 4000000 in

theorem cloneN_calls (A0 : Option Addr) (c0 : Nat) (l0 : List S36) (w : World) (P0 : Nat → Prop) (hf0 : Kd.F k36 w P0 A0 l0.length l0) (hc0 : l0.length ≤ c0) (hlt : l0.length ≤ 1000000) :
  Calls Tryd.prog 120 #[.slice A0 l0.length c0] w fun e w' => ∃ v : Value, e = .returned v ∧ Kd.N k36 36 w' w.heap.size (fun k => P0 k ∨ w.heap.size ≤ k) v l0 ∧ Below w.heap.size w w' := by
 have HB := Aside0.mk (Below.refl w.heap.size w)
 have HL := Aside0.mk hlt
 have hr0 := Kd.F_now hf0
 have HR := Aside0.mk (Kd.F_bound hf0)
 have HC := Aside0.mk hc0
 rcases A0 with _ | ad
 ·
  have hl : l0 = [] := by
   rcases l0 with _ | ⟨x, l⟩
   ·
    rfl
   ·
    obtain ⟨ad, he, _⟩ := hr0.2.2 (by simp)
    cases he
  subst hl
  clear hr0 hf0 hc0 hlt
  have heq := fun W => Lib.run_eql_slice_nil (P := Tryd.prog) W 23 36 none 0 c0 0 0 Tryd.underlying23
  go_enter Tryd.func120, Tryd.ntmps120
  go_wp2
  go_ret
  exact ⟨_, rfl, Kd.N_nil _ _ _ _ _, Below.refl _ _⟩
 ·
  have heq := fun W => Lib.run_eql_slice_nil (P := Tryd.prog) W 23 36 (some ad) l0.length c0 0 0 Tryd.underlying23
  clear hr0 hf0 hc0 hlt
  go_enter Tryd.func120, Tryd.ntmps120
  go_wp2_with (first | ((with_reducible refine gate_dst (N := 5) rfl ?_); refine Kd.N_lit k36 _ 36 ?hg (N' := 5) ?hd (xs := ([] : List S36)) (inner := []) (ok := fun k => P0 k ∨ w.heap.size ≤ k) (okp := fun _ => False) ?hr ?hp (fun _ hk => hk.elim) (.inr (Nat.le_refl _)) (Below.refl _ _) (Nat.le_refl _) (by simp) ?_; (case hd => rfl); (case hg => rfl); (case hr => first | (go_simp; done) | (go_simp; rfl)); (case hp => exact (Reps.none _ _)); intro v5 w5 ho hb hg_ hnew_; have HO := Aside0.mk ho; have HB1 := Aside0.mk hb; have HW := Aside0.mk hnew_; clear ho hb hg_ hnew_) | ((with_reducible refine gate_builtin (b := .append) (xs := #[.tmp 5, .tmp 6]) rfl ?_); at_builtin; refine Kd.N_append_rows k36 (w0 := w) w.heap.size rfl (.tmp 5) (.tmp 6) 23 36 (.agg #[(.int .i64 0), (.string ⟨#[]⟩), (.int .i64 0), (.slice none 0 0)]) 56 rfl Tryd.underlying23 info36 rfl (by decide) (by omega) v5 [] l0 _ _ _ (fun k => P0 k ∨ w.heap.size ≤ k) (fun k => P0 k ∧ k < w.heap.size) rfl rfl ?aO ?aR (fun k hk => ⟨.inl hk.1, fun he => by obtain ⟨b, hb1, hb2⟩ := HW.out; rw [← he] at hb1; injection hb1 with hb1; have := hk.2; omega⟩) (fun k hk => .inr (Nat.le_trans HB1.out.size hk)) ?aB ?aS ?aL ?_; (case aR => exact Kd.F_below HR.out HB1.out); (case aB => exact HB1.out); (case aO => exact HO.out); (case aS => exact HB1.out.size); (case aL => have := HL.out; simp; omega); intro v6 w6 ho hb hg hat; have HO2 := Aside0.mk ho; have HB2 := Aside0.mk hb; clear ho hb hg hat))
  go_ret
  exact ⟨_, rfl, by simpa using HO2.out, HB2.out⟩
theorem two_alloc (w : World) (a b : Obj) : ((w.alloc a).alloc b).heap.size = w.heap.size + 2 := by rw [World.size_alloc, World.size_alloc]
def okD : Nat → List S36 → Bool
 | 0, _ => false
 | k + 1, l => decide (l.length ≤ 1000000) && l.all (fun x => okD k x.f3)
def NI (base g : Nat) (i : Int) (W : World) (n c : Nat) (l : List S36) : Prop :=
 ∃ rows : List (List Value), rows.length = l.length ∧ (Kd.raw 4).R 36 W base (fun k => some k = some g) (.slice (some ⟨g, 0, none⟩) n c) rows ∧
  ∀ (j : Nat) (x : S36) (cs : List Value), l[j]? = some x → rows[j]? = some cs → Kd.FK k36 W (fun k => ((j : Int) < i → base + 2 ≤ k) ∧ (k < base ∨ base + 2 ≤ k) ∧ k ≠ g) x cs
theorem NI_elem {base g : Nat} {i : Int} {W : World} {n c : Nat} {l : List S36} (h : NI base g i W n c l) (j : Nat) (hj : j < n) (hn : n = l.length) : ∃ A3 c3, W.cell? ⟨g, j * 4, none⟩ = some (.int .i64 (rd_T36 l j).f0) ∧ W.cell? ⟨g, j * 4 + 1, none⟩ = some (.string (rd_T36 l j).f1) ∧ W.cell? ⟨g, j * 4 + 2, none⟩ = some (.int .i64 (rd_T36 l j).f2) ∧ W.cell? ⟨g, j * 4 + 3, none⟩ = some (.slice A3 (rd_T36 l j).f3.length c3) ∧ (rd_T36 l j).f3.length ≤ c3 ∧ Kd.F k36 W (fun k => k ≠ g) A3 (rd_T36 l j).f3.length (rd_T36 l j).f3 ∧ W.frozen? ⟨g, j * 4, none⟩ = false ∧ W.frozen? ⟨g, j * 4 + 1, none⟩ = false ∧ W.frozen? ⟨g, j * 4 + 2, none⟩ = false ∧ W.frozen? ⟨g, j * 4 + 3, none⟩ = false := by
 obtain ⟨rows, hl, hR, hf⟩ := h
 obtain ⟨cs, hcl, hM, hcc, hfr⟩ := Kd.R_elem hR [] (j : Int) (by omega) (by omega)
 have hjl : j < l.length := by omega
 have hjr : j < rows.length := by omega
 have hcs : cs = rows[j] := by
  have h2 := hM.1
  rwa [Int.toNat_natCast, List.getD_eq_getElem?_getD, List.getElem?_eq_getElem hjr] at h2
 have hrd : rd_T36 l j = l[j] := by simp [rd_T36, hjl]
 have hfk := hf j l[j] rows[j] (List.getElem?_eq_getElem hjl) (List.getElem?_eq_getElem hjr)
 rw [← hcs] at hfk
 obtain ⟨A3, c3, rfl, l3, hF⟩ := k36_openF hfk
 rw [hrd]
 have e0 := hcc 0 _ rfl
 have e1 := hcc 1 _ rfl
 have e2 := hcc 2 _ rfl
 have e3 := hcc 3 _ rfl
 have z0 := hfr 0
 have z1 := hfr 1
 have z2 := hfr 2
 have z3 := hfr 3
 exact ⟨A3, c3, e0, e1, e2, e3, l3, Kd.F_mono hF (fun k hk => hk.2.2), z0, z1, z2, z3⟩
theorem NI_put {base g : Nat} {W : World} {n c : Nat} {l : List S36} (j : Nat) (h : NI base g (j : Int) W n c l) (hj : j < n) (hn : n = l.length) {A3 : Option Addr} {c3 : Nat} (l3 : (rd_T36 l j).f3.length ≤ c3) (hF : Kd.F k36 W (fun k => base + 2 ≤ k ∧ k ≠ g) A3 (rd_T36 l j).f3.length (rd_T36 l j).f3) :
  NI base g ((j : Int) + 1) ((((W.setCell ⟨g, j * 4, none⟩ (.int .i64 (rd_T36 l j).f0)).setCell ⟨g, j * 4 + 1, none⟩ (.string (rd_T36 l j).f1)).setCell ⟨g, j * 4 + 2, none⟩ (.int .i64 (rd_T36 l j).f2)).setCell ⟨g, j * 4 + 3, none⟩ (.slice A3 (rd_T36 l j).f3.length c3)) n c l := by
 obtain ⟨rows, hl, hR, hf⟩ := h
 obtain ⟨cs, hcl, hM, hcc, hfr⟩ := Kd.R_elem hR [] (j : Int) (by omega) (by omega)
 have hjl : j < l.length := by omega
 have hjr : j < rows.length := by omega
 have hrd : rd_T36 l j = l[j] := by simp [rd_T36, hjl]
 have hfk := k36_mkF W _ (rd_T36 l j) l3 hF
 obtain ⟨hR2, hg⟩ := Kd.R_seg (okp := fun _ => False) (x' := [.int .i64 (rd_T36 l j).f0, .string (rd_T36 l j).f1, .int .i64 (rd_T36 l j).f2, .slice A3 (rd_T36 l j).f3.length c3]) hR (j : Int) (by omega) (by omega) (j := 0) (seg := [.int .i64 (rd_T36 l j).f0, .string (rd_T36 l j).f1, .int .i64 (rd_T36 l j).f2, .slice A3 (rd_T36 l j).f3.length c3]) hcl hcc (Nat.le_refl 4) (by
  rw [List.take_zero, List.nil_append, Nat.zero_add, List.drop_of_length_le (by rw [hcl]; exact Nat.le_refl 4), List.append_nil]
  exact Kd.FK_raw hfk) (fun _ hk => hk.elim)
 refine ⟨_, ?_, hR2, fun q x xs hx hxs => ?_⟩
 ·
  rw [List.length_set, hl]
 ·
  rw [Int.toNat_natCast] at hxs
  by_cases hq : q = j
  ·
   subst hq
   rw [List.getElem?_set_self hjr] at hxs
   rw [List.getElem?_eq_getElem hjl] at hx
   injection hx with hx
   injection hxs with hxs
   rw [← hx, ← hxs, ← hrd]
   exact Kd.FK_mono (Kd.FK_step hfk (fun k hk hlt => hg.block k hlt (fun he => hk.2 (by injection he)))) (fun k hk => ⟨fun _ => hk.1, .inr hk.1, hk.2⟩)
  ·
   rw [List.getElem?_set_ne (Ne.symm hq)] at hxs
   exact Kd.FK_mono (Kd.FK_step (hf q x xs hx hxs) (fun k hk hlt => hg.block k hlt (fun he => hk.2.2 (by injection he)))) (fun k hk => ⟨fun hlt => hk.1 (by omega), hk.2⟩)
theorem NI_below {base g : Nat} {i : Int} {W W' : World} {n c : Nat} {l : List S36} (h : NI base g i W n c l) (hb : Below W.heap.size W W') : NI base g i W' n c l := by
 obtain ⟨rows, hl, hR, hf⟩ := h
 exact ⟨rows, hl, Kd.R_below hR hb, fun j x cs hx hc => Kd.FK_below (hf j x cs hx hc) hb⟩
theorem NI_far {base g : Nat} {i : Int} {W : World} {n c : Nat} {l : List S36} (h : NI base g i W n c l) {p : Addr} (hp : p.block = base ∨ p.block = base + 1) (hg : base + 2 ≤ g) (u : Value) : NI base g i (W.setCell p u) n c l := by
 obtain ⟨rows, hl, hR, hf⟩ := h
 exact ⟨rows, hl, Kd.R_far hR (fun k hk => by injection hk with hk; omega) u, fun j x cs hx hc => Kd.FK_step (hf j x cs hx hc) (fun k hk _ => Below.heap_setCell W p u k (by have := hk.2.1; omega))⟩
theorem NI_lt {base g : Nat} {i : Int} {W : World} {n c : Nat} {l : List S36} (h : NI base g i W n c l) : g < W.heap.size := by
 obtain ⟨rows, hl, hR, hf⟩ := h
 exact ((Kd.R_bound hR).1 g (by simp [Value.ownBlock])).2.2.1
theorem NI_end {base g : Nat} {i : Int} {W : World} {n c : Nat} {l : List S36} (h : NI base g i W n c l) (hi : i = l.length) (hg : base + 2 ≤ g) : Kd.N k36 36 W base (fun k => base + 2 ≤ k) (.slice (some ⟨g, 0, none⟩) n c) l := by
 obtain ⟨rows, hl, hR, hf⟩ := h
 have ho : (Value.slice (some ⟨g, 0, none⟩) n c).ownBlock = some g := by simp [Value.ownBlock]
 refine ⟨fun k hk => by rw [ho] at hk; injection hk with hk; omega, rows, hl, Kd.R_mono hR (fun k hk => by rw [ho]; exact hk), fun j x cs hx hc => ?_⟩
 have := (List.getElem?_eq_some_iff.1 hx).1
 exact Kd.FK_mono (hf j x cs hx hc) (fun k hk => ⟨hk.1 (by omega), by rw [ho]; simpa using hk.2.2⟩)
theorem NI_start {base g : Nat} {W : World} {n c : Nat} {l : List S36} (h : Kd.N k36 36 W base (fun k => k < base ∨ base + 2 ≤ k) (.slice (some ⟨g, 0, none⟩) n c) l) : NI base g 0 W n c l := by
 have ho : (Value.slice (some ⟨g, 0, none⟩) n c).ownBlock = some g := by simp [Value.ownBlock]
 obtain ⟨h0, rows, hl, hR, hf⟩ := h
 refine ⟨rows, hl, Kd.R_mono hR (fun k hk => by rw [ho] at hk; exact hk), fun j x cs hx hc => Kd.FK_mono (hf j x cs hx hc) (fun k hk => ⟨fun h => by omega, hk.1, fun he => hk.2 (by rw [ho, he])⟩)⟩
set_option maxHeartbeats 4000000 in
set_option maxRecDepth 100000 in
theorem cloneT_calls (k : Nat) : ∀ (x0 : Int) (x1 : ByteArray) (x2 : Int) (A : Option Addr) (c : Nat) (l : List S36) (w : World) (hr : Kd.C k36 w A l.length l) (hc : l.length ≤ c) (h : okD k l = true),
  Calls Tryd.prog 105 #[.agg #[.int .i64 x0, .string x1, .int .i64 x2, .slice A l.length c]] w fun e w' => ∃ v : Value, e = .returned (.agg #[.int .i64 x0, .string x1, .int .i64 x2, v]) ∧ Kd.V k36 36 w' w.heap.size (fun k_ => w.heap.size ≤ k_) v l ∧ Below w.heap.size w w' := by
 have hu36 := Tryd.underlying36
 induction k with
 | zero => intro x0 x1 x2 A c l w _ _ h; simp [okD] at h
 | succ k ih =>
 intro x0 x1 x2 A c l w hr hc h
 rw [okD, Bool.and_eq_true, decide_eq_true_eq, List.all_eq_true] at h
 obtain ⟨hl, hall⟩ := h
 have IH := Aside0.mk ih
 have HR := Aside0.mk hr
 have HC := Aside0.mk hc
 have HA := Aside0.mk hall
 have HX0 := Aside0.mk (blk_alloc (blk_new w (.cells #[.int .i64 x0, .string x1, .int .i64 x2, .slice A l.length c] 36)) (.cells #[.int .i64 0, .string ⟨#[]⟩, .int .i64 0, .slice none 0 0] 36))
 have Y0 := blk_new (w.alloc (.cells #[.int .i64 x0, .string x1, .int .i64 x2, .slice A l.length c] 36)) (.cells #[.int .i64 0, .string ⟨#[]⟩, .int .i64 0, .slice none 0 0] 36)
 rw [World.size_alloc] at Y0
 have HY0 := Aside0.mk Y0
 have HB0 := Aside0.mk (below_alloc (below_alloc (Below.refl w.heap.size w) (.cells #[.int .i64 x0, .string x1, .int .i64 x2, .slice A l.length c] 36)) (.cells #[.int .i64 0, .string ⟨#[]⟩, .int .i64 0, .slice none 0 0] 36))
 clear ih hr hc hall Y0
 go_enter Tryd.func105, Tryd.ntmps105
 go_wp2_with fail
 refine (cloneN_calls A c l _ (fun k => k < w.heap.size) (Kd.F_below (Kd.C_F k36_heap HR.out) HB0.out) HC.out hl).mono ?_
 rintro e w2 ⟨v, rfl, hN, hb⟩
 have HX2 := Aside0.mk (blk_below HX0.out hb)
 have HY2 := Aside0.mk (blk_below HY0.out hb)
 have HB2 := Aside0.mk (below_step HB0.out hb)
 clear hb HX0 HY0 HB0
 have q3 : w2.cell? ⟨w.heap.size, 3, none⟩ = some (.slice A l.length c) := (blk_cell HX2.out 3).trans rfl
 have f3 := blk_frozen HX2.out 3
 have hlm : (l.length : Int) < 9223372036854775807 := by omega
 have GX := Aside0.mk (Nat.le_refl w.heap.size)
 by_cases hp : 0 < l.length
 case neg =>
  obtain rfl : l = [] := by cases l with
   | nil => rfl
   | cons a b => simp at hp
  obtain ⟨Ag, cg, rfl⟩ := Kd.N_slice hN
  have HN := Aside0.mk (show Kd.N k36 36 w2 w.heap.size (fun k_ => w.heap.size ≤ k_ ∧ k_ ≠ w.heap.size ∧ k_ ≠ w.heap.size + 1) (.slice Ag ([] : List S36).length cg) [] by
   have hb1 := Kd.N_base hN
   have hs := two_alloc w (.cells #[.int .i64 x0, .string x1, .int .i64 x2, .slice A ([] : List S36).length c] 36) (.cells #[.int .i64 0, .string ⟨#[]⟩, .int .i64 0, .slice none 0 0] 36)
   obtain ⟨_, rows, h1, h2, h3⟩ := Kd.N_lower (base' := w.heap.size) hN (by omega)
   exact ⟨fun k hk => by have := hb1 k hk; omega, rows, h1, h2, fun j x cs hx => by simp at hx⟩)
  have HX3 := Aside0.mk (blk_put (cs := #[.int .i64 x0, .string x1, .int .i64 x2, .slice A ([] : List S36).length c]) HX2.out 3 (.slice Ag ([] : List S36).length cg) rfl)
  clear hN
  go_wp2_with fail
  go_loopg [3, 11] 1 (fun kq v3 v11 wr => v11 = .int .i64 0 ∧ Aside0 (Below w.heap.size w wr) ∧ Aside0 (wr.heap[w.heap.size]? = some (.cells #[.int .i64 x0, .string x1, .int .i64 x2, .slice Ag ([] : List S36).length cg] 36 (0, 0))) ∧ Aside0 (wr.heap[w.heap.size + 1]? = some (.cells #[.int .i64 0, .string ⟨#[]⟩, .int .i64 0, .slice none 0 0] 36 (0, 0))) ∧ Aside0 (Kd.N k36 36 wr w.heap.size (fun k_ => w.heap.size ≤ k_ ∧ k_ ≠ w.heap.size ∧ k_ ≠ w.heap.size + 1) (.slice Ag ([] : List S36).length cg) []))
  case atStart =>
   refine ⟨rfl, ⟨below_set HB2.out (Nat.le_refl _)⟩, HX3, ⟨blk_far HY2.out (p := ⟨w.heap.size, 3, none⟩) (by simp) _⟩, ⟨Kd.N_far HN.out (fun k hk => hk.2.1) _⟩⟩
  case round =>
   obtain ⟨rfl, HB, HX, HY, HNr⟩ := hrel
   clear HX3 HN HB2 HX2 HY2
   have x0_ := (blk_cell HX.out 0).trans rfl
   have x1_ := (blk_cell HX.out 1).trans rfl
   have x2_ := (blk_cell HX.out 2).trans rfl
   have x3_ := (blk_cell HX.out 3).trans rfl
   have y0_ := (blk_cell HY.out 0).trans rfl
   have y1_ := (blk_cell HY.out 1).trans rfl
   have y2_ := (blk_cell HY.out 2).trans rfl
   have y3_ := (blk_cell HY.out 3).trans rfl
   have z0_ := blk_frozen HY.out 0
   have z1_ := blk_frozen HY.out 1
   have z2_ := blk_frozen HY.out 2
   have z3_ := blk_frozen HY.out 3
   go_wp2
   refine bodyPost_ret (results_cell_row rfl _ _ (w.heap.size + 1) 36 #[.int .i64 x0, .string x1, .int .i64 x2, .slice Ag ([] : List S36).length cg] (0, 0) _ rfl (by refine blk_put (cs := #[.int .i64 x0, .string x1, .int .i64 x2, .slice none 0 0]) ?_ 3 _ rfl; refine blk_put (cs := #[.int .i64 x0, .string x1, .int .i64 0, .slice none 0 0]) ?_ 2 _ rfl; refine blk_put (cs := #[.int .i64 x0, .string ⟨#[]⟩, .int .i64 0, .slice none 0 0]) ?_ 1 _ rfl; refine blk_put (cs := #[.int .i64 0, .string ⟨#[]⟩, .int .i64 0, .slice none 0 0]) ?_ 0 _ rfl; exact HY.out) Tryd.underlying36 rfl (by kernel_rfl)) rfl ?_
   exact ⟨_, rfl, Kd.V_mk (Kd.N_reads' HNr.out).2.1 (Kd.F_mono (Kd.F_far (p := ⟨w.heap.size + 1, 3, none⟩) (Kd.F_far (p := ⟨w.heap.size + 1, 2, none⟩) (Kd.F_far (p := ⟨w.heap.size + 1, 1, none⟩) (Kd.F_far (p := ⟨w.heap.size + 1, 0, none⟩) (Kd.N_F HNr.out) (fun k hk => hk.2.2) _) (fun k hk => hk.2.2) _) (fun k hk => hk.2.2) _) (fun k hk => hk.2.2) _) (fun k hk => hk.1)), below_set (below_set (below_set (below_set HB.out (by omega)) (by omega)) (by omega)) (by omega)⟩
 obtain ⟨g, cg, rfl, hg1, hg2, cells, hg3⟩ := Kd.N_form hN hp
 rw [two_alloc] at hg1
 have HN2 := Aside0.mk (NI_start (Kd.N_mono (Kd.N_lower (base' := w.heap.size) hN (by rw [two_alloc]; omega)) (fun k hk => by rw [two_alloc] at hk; exact hk)))
 have HX3 := Aside0.mk (blk_put (cs := #[.int .i64 x0, .string x1, .int .i64 x2, .slice A l.length c]) HX2.out 3 (.slice (some ⟨g, 0, none⟩) l.length cg) rfl)
 clear hN hg2 hg3
 go_wp2_with fail
 go_loopg [3, 11] l.length (fun kq v3 v11 wr => ∃ i : Nat, v11 = .int .i64 i ∧ kq + i = l.length ∧ Aside0 (Below w.heap.size w wr) ∧ Aside0 (wr.heap[w.heap.size]? = some (.cells #[.int .i64 x0, .string x1, .int .i64 x2, .slice (some ⟨g, 0, none⟩) l.length cg] 36 (0, 0))) ∧ Aside0 (wr.heap[w.heap.size + 1]? = some (.cells #[.int .i64 0, .string ⟨#[]⟩, .int .i64 0, .slice none 0 0] 36 (0, 0))) ∧ Aside0 (NI w.heap.size g (i : Int) wr l.length cg l))
 case atStart =>
  refine ⟨0, rfl, by omega, ⟨below_set HB2.out (Nat.le_refl _)⟩, HX3, ⟨blk_far HY2.out (p := ⟨w.heap.size, 3, none⟩) (by simp) _⟩, ⟨NI_far HN2.out (.inl rfl) hg1 _⟩⟩
 case round =>
  obtain ⟨i, rfl, hki, HB, HX, HY, HNr⟩ := hrel
  clear HX3 HN2 HB2 HX2 HY2
  have x0_ := (blk_cell HX.out 0).trans rfl
  have x1_ := (blk_cell HX.out 1).trans rfl
  have x2_ := (blk_cell HX.out 2).trans rfl
  have x3_ := (blk_cell HX.out 3).trans rfl
  cases gk with
  | zero =>
   obtain rfl : i = l.length := by omega
   have y0_ := (blk_cell HY.out 0).trans rfl
   have y1_ := (blk_cell HY.out 1).trans rfl
   have y2_ := (blk_cell HY.out 2).trans rfl
   have y3_ := (blk_cell HY.out 3).trans rfl
   have z0_ := blk_frozen HY.out 0
   have z1_ := blk_frozen HY.out 1
   have z2_ := blk_frozen HY.out 2
   have z3_ := blk_frozen HY.out 3
   go_wp2
   refine bodyPost_ret (results_cell_row rfl _ _ (w.heap.size + 1) 36 #[.int .i64 x0, .string x1, .int .i64 x2, .slice (some ⟨g, 0, none⟩) l.length cg] (0, 0) _ rfl (by refine blk_put (cs := #[.int .i64 x0, .string x1, .int .i64 x2, .slice none 0 0]) ?_ 3 _ rfl; refine blk_put (cs := #[.int .i64 x0, .string x1, .int .i64 0, .slice none 0 0]) ?_ 2 _ rfl; refine blk_put (cs := #[.int .i64 x0, .string ⟨#[]⟩, .int .i64 0, .slice none 0 0]) ?_ 1 _ rfl; refine blk_put (cs := #[.int .i64 0, .string ⟨#[]⟩, .int .i64 0, .slice none 0 0]) ?_ 0 _ rfl; exact HY.out) Tryd.underlying36 rfl (by kernel_rfl)) rfl ?_
   exact ⟨_, rfl, Kd.V_mk (Kd.N_reads' (NI_end HNr.out (by omega) hg1)).2.1 (Kd.F_mono (Kd.F_far (p := ⟨w.heap.size + 1, 3, none⟩) (Kd.F_far (p := ⟨w.heap.size + 1, 2, none⟩) (Kd.F_far (p := ⟨w.heap.size + 1, 1, none⟩) (Kd.F_far (p := ⟨w.heap.size + 1, 0, none⟩) (Kd.N_F (NI_end HNr.out (by omega) hg1)) (fun k hk => by simp only; omega) _) (fun k hk => by simp only; omega) _) (fun k hk => by simp only; omega) _) (fun k hk => by simp only; omega) _) (fun k hk => by omega)), below_set (below_set (below_set (below_set HB.out (by omega)) (by omega)) (by omega)) (by omega)⟩
  | succ k1 =>
   have hi : i < l.length := by omega
   have hi0 : (0 : Int) ≤ (i : Int) := by omega
   have hi1 : (i : Int) < (l.length : Int) := by omega
   have d1 : decide ((i : Int) < (l.length : Int)) = true := decide_eq_true hi1
   obtain ⟨A3, c3, e0, e1, e2, e3, l3, hF, z0, z1, z2, z3⟩ := NI_elem HNr.out i hi rfl
   have hok := HA.out (rd_T36 l i) (by simp [rd_T36, hi])
   have hng : w.heap.size ≠ g := by omega
   have hgn : g ≠ w.heap.size := by omega
   have HF := Aside0.mk hF
   have HOK := Aside0.mk hok
   have L3 := Aside0.mk l3
   have tn : ((i : Int)).toNat = i := Int.toNat_natCast i
   clear hF hok l3
   go_upto_region 5 with fail
   go_region_with (first | (go_at_call 105; refine (IH.out (rd_T36 l i).f0 (rd_T36 l i).f1 (rd_T36 l i).f2 A3 c3 (rd_T36 l i).f3 _ (Kd.C_drew (Kd.F_now HF.out)) L3.out HOK.out).mono ?_; rintro e w3 ⟨v3, rfl, hV, hb⟩; have qx := (blk_cell (blk_below (blk_drew HX.out) hb) 3).trans rfl; have HXn := Aside0.mk (blk_below (blk_drew HX.out) hb); have HYn := Aside0.mk (blk_below (blk_drew HY.out) hb); have HNn := Aside0.mk (NI_below (NI_below HNr.out (below_drew (Below.refl _ _))) hb); have HBn := Aside0.mk (below_step (below_drew1 HB.out) hb); have HVn := Aside0.mk hV; have HGn := Aside0.mk (NI_lt (NI_below HNr.out (below_drew (Below.refl _ _)))); obtain ⟨A4, c4, e4⟩ := Kd.V_slice hV; subst e4; obtain ⟨A5, c5, n0, n1, n2, n3, _, _, u0, u1, u2, u3⟩ := NI_elem HNn.out i hi rfl; clear hV hb))
   all_goals
    go_wp2
    go_roundg k1
    case measure => omega
    case rel =>
     have hg := HGn.out
     have hny : w.heap.size + 1 ≠ g := by omega
     refine ⟨i + 1, by rfl, by omega, ⟨?_⟩, ⟨?_⟩, ⟨?_⟩, ⟨?_⟩⟩
     ·
      exact below_set (below_set (below_set (below_set HBn.out (by omega)) (by omega)) (by omega)) (by omega)
     ·
      exact blk_far (blk_far (blk_far (blk_far HXn.out (p := ⟨g, i * 4, none⟩) hng _) (p := ⟨g, i * 4 + 1, none⟩) hng _) (p := ⟨g, i * 4 + 2, none⟩) hng _) (p := ⟨g, i * 4 + 3, none⟩) hng _
     ·
      exact blk_far (blk_far (blk_far (blk_far HYn.out (p := ⟨g, i * 4, none⟩) hny _) (p := ⟨g, i * 4 + 1, none⟩) hny _) (p := ⟨g, i * 4 + 2, none⟩) hny _) (p := ⟨g, i * 4 + 3, none⟩) hny _
     ·
      exact NI_put i HNn.out hi rfl (Kd.V_reads' HVn.out).2.1 (Kd.F_mono (Kd.V_F HVn.out) (fun k hk => ⟨by omega, by omega⟩))
end cln
def node_clone.f (k : Nat) (a0_0 : Int) (a0_1 : ByteArray) (a0_2 : Int) (l0_3 : List (S36)) : Option (Int × ByteArray × Int × List (S36)) := if okD k l0_3 = true then some (a0_0, a0_1, a0_2, l0_3) else none
theorem node_clone.calls (k : Nat) (a0_0 : Int) (a0_1 : ByteArray) (a0_2 : Int) (A0_3 : Option Addr) (c0_3 : Nat) (l0_3 : List (S36)) (r1 : Int) (r2 : ByteArray) (r3 : Int) (r4 : List (S36)) (w : World) (hr0_3 : Kd.C k36 w A0_3 l0_3.length l0_3) (hc0_3 : l0_3.length ≤ c0_3) (h : node_clone.f k a0_0 a0_1 a0_2 l0_3 = some (r1, r2, r3, r4)) :
  Calls Tryd.prog 105 #[.agg #[.int .i64 a0_0, .string a0_1, .int .i64 a0_2, .slice A0_3 l0_3.length c0_3]] w fun e w' => ∃ v3_ : Value, e = .returned (.agg #[.int .i64 r1, .string r2, .int .i64 r3, v3_]) ∧ Kd.V k36 36 w' w.heap.size (fun k_ => (w.heap.size ≤ k_)) v3_ r4 ∧ Below w.heap.size w w' := by
 unfold node_clone.f at h
 split at h
 ·
  rename_i hk
  simp only [Option.some.injEq, Prod.mk.injEq] at h
  obtain ⟨rfl, rfl, rfl, rfl⟩ := h
  exact cloneT_calls k a0_0 a0_1 a0_2 A0_3 c0_3 l0_3 w hr0_3 hc0_3 hk
 ·
  cases h
section fnd
def fnd : Nat → List Int → S36 → Option (S36 × Bool)
 | 0, _, _ => none
 | k + 1, p, x => if 2 ≤ p.length then (if 0 ≤ rd p 0 ∧ rd p 0 < x.f3.length then (if 0 ≤ rd p 1 ∧ rd p 1 < (rd_T36 x.f3 (rd p 0)).f3.length then fnd k (p.drop 2) (rd_T36 (rd_T36 x.f3 (rd p 0)).f3 (rd p 1)) else some (z36, false)) else some (z36, false)) else some (x, decide (p.length = 0))
theorem F_T36 {w : World} {ok : Nat → Prop} {A : Option Addr} {xs : List S36} (h : Kd.F k36 w ok A xs.length xs) (i : Int) (h0 : 0 ≤ i) (h1 : i < xs.length) : ∃ ad A3 c3, A = some ad ∧ w.cell? (ad.add (i.toNat * 4)) = some (.int .i64 (rd_T36 xs i).f0) ∧ w.cell? ⟨(ad.add (i.toNat * 4)).block, (ad.add (i.toNat * 4)).off + 1, none⟩ = some (.string (rd_T36 xs i).f1) ∧ w.cell? ⟨(ad.add (i.toNat * 4)).block, (ad.add (i.toNat * 4)).off + 2, none⟩ = some (.int .i64 (rd_T36 xs i).f2) ∧ w.cell? ⟨(ad.add (i.toNat * 4)).block, (ad.add (i.toNat * 4)).off + 3, none⟩ = some (.slice A3 (rd_T36 xs i).f3.length c3) ∧ (rd_T36 xs i).f3.length ≤ c3 ∧ Kd.F k36 w ok A3 (rd_T36 xs i).f3.length (rd_T36 xs i).f3 := by
 obtain ⟨ad, c, e, _, hK, hc0, _⟩ := Kd.F_get h z36 i h0 h1
 have hc : ∀ j u, c[j]? = some u → w.cell? (ad.add (i.toNat * 4 + j)) = some u := hc0
 obtain ⟨A3, c3, rfl, l3, g3⟩ := k36_openF hK
 exact ⟨ad, A3, c3, e, hc 0 _ rfl, by rw [← add_field _ _ 1 (by omega)]; exact hc 1 _ rfl, by rw [← add_field _ _ 2 (by omega)]; exact hc 2 _ rfl, by rw [← add_field _ _ 3 (by omega)]; exact hc 3 _ rfl, l3, g3⟩
end fnd
end Go.Proofs.YtagkhoeidjlahaaDoor.G
