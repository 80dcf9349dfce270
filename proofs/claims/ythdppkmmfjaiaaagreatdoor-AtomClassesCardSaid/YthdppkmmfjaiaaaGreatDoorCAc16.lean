-- Written by pack2.py, a program of this session: this session's texts and those that the kit's printer wrote for this claim, pruned to what the claims use.
import Derived.Test.YthdppkmmfjaiaaaGreatDoorCAc2
import Derived.Lib.ConvBytes
import Derived.Maps.AppendAt
import Derived.Maps.OwnSet
namespace Go.Proofs.YthdppkmmfjaiaaaGreatDoor.G
open Go.RowKit Go.Proofs.YthdppkmmfjaiaaaGreatDoorW.PrintWords Go.Proofs.YthdppkmmfjaiaaaGreatDoorW.PrintLast Go.Proofs.YthdppkmmfjaiaaaGreatDoorW.PrintMore
attribute [local go_sem] max2_int min2_int max_two min_two max_three min_three max_four min_four
set_option linter.unusedVariables false
set_option linter.unusedSimpArgs false
section opw
open Go.Maps
def badC (c : Int) : Bool := decide (c < 33) || decide (126 < c)
def badB (b : UInt8) : Bool := badC (b.toNat : Int)
def properB (s : ByteArray) (q : Int) : Bool := decide (1 ≤ s.size) && decide (s.size ≤ 16) && !(s.data.toList.any badB) && decide (0 ≤ q) && decide (q ≤ 7)
def dupFree : List ByteArray → Bool
  | [] => true
  | x :: l => !(l.any fun y => decide (y = x)) && dupFree l
def idxE (t : ByteArray) : List (S75) → Int → Int
  | [], _ => -1
  | x :: l, i => if x.f0.toList = t.toList then i else idxE t l (i + 1)
set_option maxRecDepth 100000 in
theorem pr1_calls (c : Int) (w : World) : Calls Tryz.prog 63 #[.int .u8 c] w fun e w' => e = .returned (.bool (badC c)) ∧ w' = w := by
  by_cases h : c < 33
  · have h' : decide (c < 33) = true := decide_eq_true h
    have HF : Aside0 (badC c = true) := ⟨by unfold badC; rw [h']; rfl⟩
    go_enter Tryz.func63, Tryz.ntmps63
    go_wp2
    go_ret
    exact ⟨by rw [HF.out]; rfl, rfl⟩
  · have h' : decide (c < 33) = false := decide_eq_false h
    have HF : Aside0 (badC c = decide (126 < c)) := ⟨by unfold badC; rw [h']; rfl⟩
    go_enter Tryz.func63, Tryz.ntmps63
    go_wp2
    go_ret
    exact ⟨by rw [HF.out]; rfl, rfl⟩
set_option maxHeartbeats 1000000 in
set_option maxRecDepth 100000 in
theorem ixb_calls (g n cp : Nat) (xs : List UInt8) (w : World) (hn : n = xs.length) (hbig : n ≤ 16) (hg : g < w.heap.size)
    (hc : ∀ j, j < xs.length → w.cell? ⟨g, j, none⟩ = some (.int .u8 ((xs.getD j 0).toNat : Nat))) :
    Calls Tryz.prog 79 #[.slice (some ⟨g, 0, none⟩) n cp, .func (.func 63) #[] #[]] w fun e w' => ∃ i : Int, e = .returned (.int .i64 i) ∧ decide (0 ≤ i) = xs.any badB ∧ Below w.heap.size w w' := by
  have HC := Aside0.mk hc
  have HN := Aside0.mk hn
  clear hc hn
  go_enter Tryz.func79, Tryz.ntmps79
  go_wp2_with fail
  go_loopg [5, 8] n (fun gg _ s8 wr => ∃ kk : Nat, kk ≤ n ∧ n - kk ≤ gg ∧ s8 = .int .i64 kk ∧ Aside0 (Below w.heap.size w wr) ∧ Aside0 (∀ j, j < kk → badB (xs.getD j 0) = false))
  case atStart => exact ⟨0, Nat.zero_le _, by omega, rfl, ⟨Below.refl _ w⟩, ⟨fun j hj => absurd hj (Nat.not_lt_zero _)⟩⟩
  case round =>
    obtain ⟨kk, hkk, hgk, rfl, BW, HA⟩ := hrel
    by_cases hlt : kk < n
    · have hd : decide ((kk : Int) < (n : Int)) = true := decide_eq_true (by omega)
      have l2 : wr.cell? ⟨g, kk, none⟩ = some (.int .u8 ((xs.getD kk 0).toNat : Nat)) := (BW.out.cell (p := ⟨g, kk, none⟩) hg).trans (HC.out kk (by have := HN.out; omega))
      have hcall := pr1_calls (((xs.getD kk 0).toNat : Nat) : Int) wr
      obtain ⟨y, hy⟩ : ∃ y, xs.getD kk 0 = y := ⟨_, rfl⟩
      rw [hy] at l2 hcall
      have HY := Aside0.mk hy
      clear hy
      obtain ⟨b, hb⟩ : ∃ b, badC ((y.toNat : Nat) : Int) = b := ⟨_, rfl⟩
      rw [hb] at hcall
      have HBD := Aside0.mk (show badB y = b from hb)
      clear hb
      cases b with
      | true =>
        go_wp2_with fail
        refine hcall.mono ?_
        rintro e w' ⟨rfl, hw⟩
        subst hw
        go_wp2
        go_ret
        refine ⟨_, rfl, ?_, BW.out⟩
        rw [decide_eq_true (by omega)]
        refine (List.any_eq_true.2 ⟨xs.getD kk 0, ?_, ?_⟩).symm
        · have := HN.out
          rw [List.getD_eq_getElem?_getD, List.getElem?_eq_getElem (by omega)]
          exact List.getElem_mem _
        · rw [HY.out]; exact HBD.out
      | false =>
        go_wp2_with fail
        refine hcall.mono ?_
        rintro e w' ⟨rfl, hw⟩
        subst hw
        go_wp2
        go_roundg (n - (kk + 1))
        case measure => omega
        case rel =>
          refine ⟨kk + 1, by omega, Nat.le_refl _, by go_num, BW, ⟨fun j hj => ?_⟩⟩
          rcases Nat.lt_or_ge j kk with h | h
          · exact HA.out j h
          · obtain rfl : j = kk := by omega
            rw [HY.out]; exact HBD.out
    · have hd : decide ((kk : Int) < (n : Int)) = false := decide_eq_false (by omega)
      go_wp2
      go_ret
      refine ⟨_, rfl, ?_, BW.out⟩
      rw [decide_eq_false (by omega)]
      refine (List.any_eq_false.2 fun x hx => ?_).symm
      obtain ⟨j, hj, rfl⟩ := List.getElem_of_mem hx
      have := HN.out
      have h := HA.out j (by omega)
      rw [List.getD_eq_getElem?_getD, List.getElem?_eq_getElem hj] at h
      simpa using h
set_option maxRecDepth 100000 in
theorem cfb_calls (g n cp : Nat) (xs : List UInt8) (w : World) (hn : n = xs.length) (hbig : n ≤ 16) (hg : g < w.heap.size)
    (hc : ∀ j, j < xs.length → w.cell? ⟨g, j, none⟩ = some (.int .u8 ((xs.getD j 0).toNat : Nat))) :
    Calls Tryz.prog 62 #[.slice (some ⟨g, 0, none⟩) n cp, .func (.func 63) #[] #[]] w fun e w' => e = .returned (.bool (xs.any badB)) ∧ Below w.heap.size w w' := by
  have H := Aside0.mk (ixb_calls g n cp xs w hn hbig hg hc)
  clear hn hc
  go_enter Tryz.func62, Tryz.ntmps62
  go_wp2_with fail
  refine H.out.mono ?_
  rintro e w' ⟨i, rfl, hi, hb⟩
  have HI := Aside0.mk hi
  have HB := Aside0.mk hb
  clear hi hb
  go_wp2
  go_ret
  exact ⟨by rw [← HI.out]; rfl, HB.out⟩
theorem bytes_below (W : World) (s : ByteArray) : Below W.heap.size W (Lib.bytesWorld W 5 s) :=
  ⟨rfl, rfl, rfl, by rw [Lib.bytesWorld_size]; omega, fun k hk => Lib.bytesWorld_at_old W 5 s k hk⟩
set_option maxHeartbeats 2000000 in
set_option maxRecDepth 100000 in
theorem proper_calls (s : ByteArray) (q : Int) (b1 b2 : Bool) (w : World) : Calls Tryz.prog 38 #[.agg #[.string s, .int .i64 q, .bool b1, .bool b2]] w fun e w' => e = .returned (.bool (properB s q)) ∧ Below w.heap.size w w' := by
  have hu := Tryz.underlying75
  by_cases h1 : 1 ≤ s.size
  · have d1 : decide (1 ≤ (s.size : Int)) = true := decide_eq_true (by omega)
    by_cases h2 : s.size ≤ 16
    · have d2 : decide ((s.size : Int) ≤ 16) = true := decide_eq_true (by omega)
      have kc := fun W => Lib.run_convert_string_bytes (P := Tryz.prog) W 9 95 5 s (show Tryz.prog.underlying 9 = some .string from by kernel_rfl) (show Tryz.prog.underlying 95 = some (.slice 5) from by kernel_rfl) (by kernel_rfl)
      have X0 := blk_new w (.cells #[.string s, .int .i64 q, .bool b1, .bool b2] 75)
      have HB0 := Aside0.mk (below_step (below_alloc (Below.refl w.heap.size w) (.cells #[.string s, .int .i64 q, .bool b1, .bool b2] 75)) (bytes_below _ s))
      have X1 := Aside0.mk (blk_below X0 (bytes_below _ s))
      have HCF := Aside0.mk (fun cp => cfb_calls (w.alloc (.cells #[.string s, .int .i64 q, .bool b1, .bool b2] 75)).heap.size s.size cp s.data.toList (Lib.bytesWorld (w.alloc (.cells #[.string s, .int .i64 q, .bool b1, .bool b2] 75)) 5 s) rfl h2 (by rw [Lib.bytesWorld_size]; omega) (fun j hj => Lib.bytesWorld_cell _ 5 s j hj))
      clear X0
      rw [World.size_alloc] at HCF
      obtain ⟨b, hb⟩ : ∃ b, s.data.toList.any badB = b := ⟨_, rfl⟩
      rw [hb] at HCF
      have HBB := Aside0.mk hb
      clear hb
      cases b with
      | true =>
        have HF : Aside0 (properB s q = false) := ⟨by unfold properB; rw [HBB.out]; simp⟩
        go_enter Tryz.func38, Tryz.ntmps38
        go_wp2_with fail
        refine (HCF.out _).mono ?_
        rintro e w2 ⟨rfl, hb2⟩
        have HB2 := Aside0.mk (below_step HB0.out hb2)
        have X2 := blk_below X1.out hb2
        have x0 := (blk_cell X2 0).trans rfl
        have x1 := (blk_cell X2 1).trans rfl
        clear hb2 X2
        go_wp2
        go_ret
        exact ⟨by rw [HF.out]; rfl, HB2.out⟩
      | false =>
        by_cases h3 : 0 ≤ q
        · have d3 : decide (0 ≤ q) = true := decide_eq_true h3
          have HF : Aside0 (properB s q = decide (q ≤ 7)) := ⟨by unfold properB; rw [HBB.out]; simp [h1, h2, h3]⟩
          go_enter Tryz.func38, Tryz.ntmps38
          go_wp2_with fail
          refine (HCF.out _).mono ?_
          rintro e w2 ⟨rfl, hb2⟩
          have HB2 := Aside0.mk (below_step HB0.out hb2)
          have X2 := blk_below X1.out hb2
          have x0 := (blk_cell X2 0).trans rfl
          have x1 := (blk_cell X2 1).trans rfl
          clear hb2 X2
          go_wp2
          go_ret
          exact ⟨by rw [HF.out]; rfl, HB2.out⟩
        · have d3 : decide (0 ≤ q) = false := decide_eq_false h3
          have HF : Aside0 (properB s q = false) := ⟨by unfold properB; rw [d3]; simp⟩
          go_enter Tryz.func38, Tryz.ntmps38
          go_wp2_with fail
          refine (HCF.out _).mono ?_
          rintro e w2 ⟨rfl, hb2⟩
          have HB2 := Aside0.mk (below_step HB0.out hb2)
          have X2 := blk_below X1.out hb2
          have x0 := (blk_cell X2 0).trans rfl
          have x1 := (blk_cell X2 1).trans rfl
          clear hb2 X2
          go_wp2
          go_ret
          exact ⟨by rw [HF.out]; rfl, HB2.out⟩
    · have d2 : decide ((s.size : Int) ≤ 16) = false := decide_eq_false (by omega)
      have HF : Aside0 (properB s q = false) := ⟨by unfold properB; rw [decide_eq_false h2]; simp⟩
      go_enter Tryz.func38, Tryz.ntmps38
      go_wp2
      go_ret
      exact ⟨by rw [HF.out]; rfl, below_alloc (Below.refl _ _) _⟩
  · have d1 : decide (1 ≤ (s.size : Int)) = false := decide_eq_false (by omega)
    have HF : Aside0 (properB s q = false) := ⟨by unfold properB; rw [decide_eq_false h1]; simp⟩
    go_enter Tryz.func38, Tryz.ntmps38
    go_wp2
    go_ret
    exact ⟨by rw [HF.out]; rfl, below_alloc (Below.refl _ _) _⟩
theorem ownsMap_below {H : Type} {P : Program} {k : TypeId} {R : Value → Option (DataW H × List MemPlace)} {w w1 : World} {b n : Nat} {D : DataW H} (h : w.ownsMap P k R b n D) (hb : Below w.heap.size w w1) : w1.ownsMap P k R b n D := by
  obtain ⟨es, clock, h1, h2⟩ := h
  exact ⟨es, clock, blk_below h1 hb, h2⟩
def keysE (xs : List (S75)) : List Lit := xs.map fun x => .string x.f0.data.toList
def setE (xs : List (S75)) : DataW Unit := setOf (.lit (.bool true)) (keysE xs)
theorem setE_snoc (xs : List (S75)) (x : S75) : setE (xs ++ [x]) = (setE xs).put (.string x.f0.data.toList) (.lit (.bool true)) := by
  unfold setE keysE
  rw [List.map_append, List.map_cons, List.map_nil, setOf_snoc]
theorem lit_inj {x y : ByteArray} (h : Lit.string x.data.toList = Lit.string y.data.toList) : x = y := by
  injection h with h
  cases x; cases y
  simpa using h
theorem addKeys_len (xs : List ByteArray) : ∀ (L : List ByteArray), ((xs.map fun x => Lit.string x.data.toList).foldl addKey (L.map fun x => Lit.string x.data.toList)).length ≤ L.length + xs.length ∧ (((xs.map fun x => Lit.string x.data.toList).foldl addKey (L.map fun x => Lit.string x.data.toList)).length = L.length + xs.length ↔ (dupFree xs = true ∧ ∀ x ∈ xs, ¬ x ∈ L)) := by
  induction xs with
  | nil => intro L; simp [dupFree]
  | cons x xs ih =>
    intro L
    rw [List.map_cons, List.foldl_cons]
    by_cases hx : x ∈ L
    · have hadd : addKey (L.map fun x => Lit.string x.data.toList) (.string x.data.toList) = L.map fun x => Lit.string x.data.toList := by
        unfold addKey
        rw [if_pos]
        rw [List.any_map, List.any_eq_true]
        exact ⟨x, hx, WideAt.sameKey_self (a := .string _) trivial⟩
      rw [hadd]
      have h := ih L
      refine ⟨by have := h.1; simp; omega, ⟨fun he => ?_, fun he => absurd hx (he.2 x (by simp))⟩⟩
      have := h.1
      simp at he
      omega
    · have hadd : addKey (L.map fun x => Lit.string x.data.toList) (.string x.data.toList) = (L.map fun x => Lit.string x.data.toList) ++ [.string x.data.toList] := by
        unfold addKey
        rw [if_neg]
        rw [List.any_map, List.any_eq_true]
        rintro ⟨y, hy, h⟩
        exact hx (lit_inj (WideAt.sameKey_eq h) ▸ hy)
      rw [hadd]
      have h := ih (L ++ [x])
      rw [List.map_append, List.map_cons, List.map_nil] at h
      refine ⟨by have := h.1; simp at this ⊢; omega, ?_⟩
      have h2 := h.2
      simp only [List.length_append, List.length_cons, List.length_nil] at h2 ⊢
      rw [show L.length + (xs.length + 1) = L.length + (0 + 1) + xs.length by omega, h2]
      simp only [dupFree, List.mem_append, List.mem_singleton, List.mem_cons, List.not_mem_nil, or_false, Bool.and_eq_true, Bool.not_eq_true', List.any_eq_false, decide_eq_true_eq, not_or]
      constructor
      · rintro ⟨hd, hm⟩
        refine ⟨⟨fun y hy => (hm y hy).2, hd⟩, fun y hy => ?_⟩
        rcases hy with rfl | hy
        · exact hx
        · exact (hm y hy).1
      · rintro ⟨⟨ha, hd⟩, hm⟩
        exact ⟨hd, fun y hy => ⟨hm y (.inr hy), ha y hy⟩⟩
theorem setE_size (xs : List (S75)) : Maps.size (setE xs) ≤ xs.length ∧ (Maps.size (setE xs) = xs.length ↔ dupFree (xs.map (·.f0)) = true) := by
  have h := addKeys_len (xs.map (·.f0)) []
  have hs : Maps.size (setE xs) = ((xs.map (·.f0)).map (fun x => Lit.string x.data.toList) |>.foldl addKey []).length := by
    unfold setE keysE
    rw [size_setOf _ _ (fun x hx => by obtain ⟨y, _, rfl⟩ := List.mem_map.1 hx; trivial), List.map_map]
    rfl
  rw [hs]
  simpa using h
def validD (l : List (S75)) : Bool := l.all (fun x => properB x.f0 x.f1) && decide (l.length ≤ 200) && dupFree (l.map (·.f0))
theorem rdE {l : List (S75)} {i : Nat} (h : i < l.length) : rd_T75 l (i : Int) = l[i] := by
  unfold rd_T75
  rw [Int.toNat_natCast, List.getD_eq_getElem?_getD, List.getElem?_eq_getElem h]
  rfl
theorem validD_end (l : List (S75)) (h : l.all (fun x => properB x.f0 x.f1) = true) : validD l = (decide (l.length ≤ 200) && ((Maps.size (setE l) : Int) == (l.length : Int))) := by
  unfold validD
  rw [h, Bool.true_and]
  congr 1
  rw [Bool.eq_iff_iff, beq_iff_eq, ← (setE_size l).2]
  omega
theorem idxE_hit (t : ByteArray) (l : List (S75)) : ∀ (kk : Nat) (i : Int), (∀ j, j < kk → ¬ (rd_T75 l (j : Int)).f0.toList = t.toList) → kk < l.length → (rd_T75 l (kk : Int)).f0.toList = t.toList → idxE t l i = i + kk := by
  induction l with
  | nil => intro kk i _ h; simp at h
  | cons x l ih =>
    intro kk i hn hk he
    cases kk with
    | zero =>
      rw [rdE hk] at he
      unfold idxE
      rw [if_pos (by simpa using he)]
      simp
    | succ kk =>
      have h0 := hn 0 (by omega)
      rw [rdE (by simp)] at h0
      unfold idxE
      have hk' : kk < l.length := by simpa using hk
      have h1 : ∀ j, j < kk → ¬ (rd_T75 l (j : Int)).f0.toList = t.toList := fun j hj => by
        have h := hn (j + 1) (by omega)
        rw [rdE (by simp; omega)] at h
        rw [rdE (by omega)]
        simpa using h
      have h2 : (rd_T75 l (kk : Int)).f0.toList = t.toList := by
        rw [rdE hk] at he
        rw [rdE hk']
        simpa using he
      rw [if_neg (by simpa using h0), ih kk (i + 1) h1 hk' h2]
      omega
theorem idxE_miss (t : ByteArray) (l : List (S75)) : ∀ (i : Int), (∀ j, j < l.length → ¬ (rd_T75 l (j : Int)).f0.toList = t.toList) → idxE t l i = -1 := by
  induction l with
  | nil => intro i _; rfl
  | cons x l ih =>
    intro i hn
    have h0 := hn 0 (by simp)
    rw [rdE (by simp)] at h0
    unfold idxE
    have h1 : ∀ j, j < l.length → ¬ (rd_T75 l (j : Int)).f0.toList = t.toList := fun j hj => by
      have h := hn (j + 1) (by simpa using hj)
      rw [rdE (by simpa using hj)] at h
      rw [rdE hj]
      simpa using h
    rw [if_neg (by simpa using h0), ih (i + 1) h1]
set_option maxHeartbeats 1000000 in
set_option maxRecDepth 100000 in
theorem ix1_calls (s : ByteArray) (q : Int) (b1 b2 : Bool) (B : Nat) (t : ByteArray) (w : World) (hB : B < w.heap.size) (hc : w.cell? ⟨B, 0, none⟩ = some (.string t)) : Calls Tryz.prog 88 #[.agg #[.string s, .int .i64 q, .bool b1, .bool b2], .pointer (some ⟨B, 0, none⟩)] w fun e w' => e = .returned (.bool (s.toList == t.toList)) ∧ Below w.heap.size w w' := by
  have hu := Tryz.underlying75
  have hne : B ≠ w.heap.size := by omega
  have hc2 : (w.alloc (.cells #[.string s, .int .i64 q, .bool b1, .bool b2] 75)).cell? ⟨B, 0, none⟩ = some (.string t) := ((below_alloc (Below.refl w.heap.size w) _).cell (p := ⟨B, 0, none⟩) hB).trans hc
  clear hc
  go_enter Tryz.func88, Tryz.ntmps88
  go_wp2
  go_ret
  exact ⟨rfl, below_alloc (Below.refl _ _) _⟩
set_option maxHeartbeats 1000000 in
set_option maxRecDepth 100000 in
theorem ixe_calls (A0 : Option Addr) (c0 : Nat) (l0 : List (S75)) (B : Nat) (t : ByteArray) (w : World) (hC : Kd.C k75 w A0 l0.length l0) (hB : B < w.heap.size) (hc : w.cell? ⟨B, 0, none⟩ = some (.string t)) :
    Calls Tryz.prog 87 #[.slice A0 l0.length c0, .func (.func 88) #[] #[.pointer (some ⟨B, 0, none⟩)]] w fun e w' => e = .returned (.int .i64 (idxE t l0 0)) ∧ Below w.heap.size w w' := by
  have hu := Tryz.underlying75
  have HR := Aside0.mk hC
  have HCB := Aside0.mk hc
  have hbig := hC.2.1
  clear hC hc
  go_enter Tryz.func87, Tryz.ntmps87
  go_wp2_with fail
  go_loopg [5, 8] l0.length (fun gg _ s8 wr => ∃ kk : Nat, kk ≤ l0.length ∧ l0.length - kk ≤ gg ∧ s8 = .int .i64 kk ∧ Aside0 (Below w.heap.size w wr) ∧ Aside0 (∀ j, j < kk → ¬ (rd_T75 l0 (j : Int)).f0.toList = t.toList))
  case atStart => exact ⟨0, Nat.zero_le _, by omega, rfl, ⟨Below.refl _ w⟩, ⟨fun j hj => absurd hj (Nat.not_lt_zero _)⟩⟩
  case round =>
    obtain ⟨kk, hkk, hgk, rfl, BW, HA⟩ := hrel
    by_cases hlt : kk < l0.length
    · have hd : decide ((kk : Int) < (l0.length : Int)) = true := decide_eq_true (by omega)
      obtain ⟨ad, e0, q0, q1, q2, q3⟩ := at_T75 (Kd.C_below HR.out BW.out) (kk : Int) (by omega) (by omega)
      subst e0
      simp only [Int.toNat_natCast] at q0 q1 q2 q3
      have hcell : wr.cell? ⟨B, 0, none⟩ = some (.string t) := (BW.out.cell (p := ⟨B, 0, none⟩) hB).trans HCB.out
      have hcall := ix1_calls (rd_T75 l0 (kk : Int)).f0 (rd_T75 l0 (kk : Int)).f1 (rd_T75 l0 (kk : Int)).f2 (rd_T75 l0 (kk : Int)).f3 B t wr (Nat.lt_of_lt_of_le hB BW.out.size) hcell
      clear hcell
      obtain ⟨b, hb⟩ : ∃ b, ((rd_T75 l0 (kk : Int)).f0.toList == t.toList) = b := ⟨_, rfl⟩
      rw [hb] at hcall
      have HBD := Aside0.mk hb
      have HCALL := Aside0.mk hcall
      clear hb hcall
      cases b with
      | true =>
        go_wp2_with fail
        refine HCALL.out.mono ?_
        rintro e w' ⟨rfl, hw⟩
        go_wp2
        go_ret
        refine ⟨?_, below_step BW.out hw⟩
        rw [idxE_hit t l0 kk 0 HA.out hlt (by simpa using HBD.out), Int.zero_add]
        rfl
      | false =>
        go_wp2_with fail
        refine HCALL.out.mono ?_
        rintro e w' ⟨rfl, hw⟩
        have BW2 := Aside0.mk (below_step BW.out hw)
        clear hw
        go_wp2
        go_roundg (l0.length - (kk + 1))
        case measure => omega
        case rel =>
          refine ⟨kk + 1, by omega, Nat.le_refl _, by go_num, BW2, ⟨fun j hj => ?_⟩⟩
          rcases Nat.lt_or_ge j kk with h | h
          · exact HA.out j h
          · obtain rfl : j = kk := by omega
            simpa using HBD.out
    · have hd : decide ((kk : Int) < (l0.length : Int)) = false := decide_eq_false (by omega)
      go_wp2
      go_ret
      refine ⟨?_, BW.out⟩
      rw [idxE_miss t l0 0 (fun j hj => HA.out j (by omega))]
      rfl
end opw
end Go.Proofs.YthdppkmmfjaiaaaGreatDoor.G
namespace Go.Proofs.YthdppkmmfjaiaaaGreatDoor.G
open Go.RowKit Go.Proofs.YthdppkmmfjaiaaaGreatDoorW.PrintWords Go.Proofs.YthdppkmmfjaiaaaGreatDoorW.PrintLast Go.Proofs.YthdppkmmfjaiaaaGreatDoorW.PrintMore
attribute [local go_sem] max2_int min2_int max_two min_two max_three min_three max_four min_four
set_option linter.unusedVariables false
set_option linter.unusedSimpArgs false
def opdict_index.f (l0 : List (S75)) (a1 : ByteArray) : Option Int := if l0.length < 17592186044416 then some (idxE a1 l0 0) else none
set_option maxHeartbeats 2000000 in
set_option maxRecDepth 100000 in

theorem opdict_index.calls (A0 : Option Addr) (c0 : Nat) (l0 : List (S75)) (a1 : ByteArray) (r : Int) (w : World) (hr0 : Kd.C k75 w A0 l0.length l0) (hc0 : l0.length ≤ c0) (h : opdict_index.f l0 a1 = some r) :
    Calls Tryz.prog 66 #[.slice A0 l0.length c0, .string a1] w fun e w' => e = .returned (.int .i64 r) ∧ Below w.heap.size w w' := by
  unfold opdict_index.f at h
  split at h
  case isFalse => cases h
  obtain rfl := Option.some.inj h
  have X0 := blk_cell (blk_new w (.cells #[.string a1] 9)) 0
  have H := Aside0.mk (ixe_calls A0 c0 l0 w.heap.size a1 (w.alloc (.cells #[.string a1] 9)) (Kd.C_alloc hr0 _) (by rw [World.size_alloc]; omega) (X0.trans rfl))
  clear X0 hr0 hc0 h
  go_enter Tryz.func66, Tryz.ntmps66
  go_wp2_with fail
  refine H.out.mono ?_
  rintro e w2 ⟨rfl, hb⟩
  have HB2 := Aside0.mk (below_step (below_alloc (Below.refl w.heap.size w) _) hb)
  clear hb
  go_wp2
  go_ret
  exact ⟨rfl, HB2.out⟩
end Go.Proofs.YthdppkmmfjaiaaaGreatDoor.G
namespace Go.Proofs.YthdppkmmfjaiaaaGreatDoor.G
open Go.RowKit Go.Proofs.YthdppkmmfjaiaaaGreatDoorW.PrintWords Go.Proofs.YthdppkmmfjaiaaaGreatDoorW.PrintLast Go.Proofs.YthdppkmmfjaiaaaGreatDoorW.PrintMore
attribute [local go_sem] max2_int min2_int max_two min_two max_three min_three max_four min_four
set_option linter.unusedVariables false
set_option linter.unusedSimpArgs false
def opdict_Find.f (l0 : List (S75)) (a1 : ByteArray) : Option (ByteArray × Int × Bool × Bool) := (opdict_index.f l0 a1).bind fun t131 => (if t131 ≥ 0 then (if 0 ≤ t131 then (if t131 < (l0.length : Int) then (some ((rd_T75 l0 t131).f0, (rd_T75 l0 t131).f1, (rd_T75 l0 t131).f2, (rd_T75 l0 t131).f3)) else (none)) else (none)) else (some (a1, 0, false, false)))
set_option maxHeartbeats 8000000 in
set_option maxRecDepth 100000 in
theorem opdict_Find.calls (A0 : Option Addr) (c0 : Nat) (l0 : List (S75)) (a1 : ByteArray) (r1 : ByteArray) (r2 : Int) (r3 : Bool) (r4 : Bool) (w : World) (hr0 : Kd.C k75 w A0 l0.length l0) (hc0 : l0.length ≤ c0) (h : opdict_Find.f l0 a1 = some (r1, r2, r3, r4)) :
    Calls Tryz.prog 41 #[.slice A0 l0.length c0, .string a1] w fun e w' => e = .returned (.agg #[.string r1, .int .i64 r2, .bool r3, .bool r4]) ∧ Below w.heap.size w w' := by
  have hu75 := Tryz.underlying75
  have HR0 := Aside0.mk hr0
  have HC0 := Aside0.mk hc0
  clear hr0 hc0
  have HB := Aside0.mk (Below.refl w.heap.size w)
  have H : ((opdict_index.f l0 a1).bind fun t131 => (if t131 ≥ 0 then (if 0 ≤ t131 then (if t131 < (l0.length : Int) then (some ((rd_T75 l0 t131).f0, (rd_T75 l0 t131).f1, (rd_T75 l0 t131).f2, (rd_T75 l0 t131).f3)) else (none)) else (none)) else (some (a1, 0, false, false)))) = some (r1, r2, r3, r4) := h
  clear h
  replace H := Option.bind_eq_some_iff.mp H
  obtain ⟨t131, A30, H⟩ := H
  replace H : (if t131 ≥ 0 then (if 0 ≤ t131 then (if t131 < (l0.length : Int) then (some ((rd_T75 l0 t131).f0, (rd_T75 l0 t131).f1, (rd_T75 l0 t131).f2, (rd_T75 l0 t131).f3)) else (none)) else (none)) else (some (a1, 0, false, false))) = some (r1, r2, r3, r4) := H
  have A3 := Aside0.mk A30
  clear A30
  by_cases c4 : t131 ≥ 0
  · rw [if_pos c4] at H
    have c4b0 : decide (0 ≤ t131) = true := decide_eq_true c4
    clear c4
    by_cases c5 : 0 ≤ t131
    · rw [if_pos c5] at H
      have c5b0 : decide (0 ≤ t131) = true := decide_eq_true c5
      clear c5
      by_cases c6 : t131 < (l0.length : Int)
      · rw [if_pos c6] at H
        have c6b0 : decide (t131 < (l0.length : Int)) = true := decide_eq_true c6
        clear c6
        simp only [Option.some.injEq, Prod.mk.injEq] at H
        obtain ⟨rfl, rfl, rfl, rfl⟩ := H
        go_enter Tryz.func41, Tryz.ntmps41
        go_wp2_with (first | ((with_reducible refine gate_dst (N := 4) rfl ?_); refine box_event ?hg (N := 4) ?hd (cs := #[.string (⟨#[]⟩ : ByteArray), .int .i64 0, .bool false, .bool false]) (t := 75) ?hr ?_; (case hd => rfl); (case hg => rfl); (case hr => first | (go_simp; done) | (go_simp; rfl)); intro gb130 hg w7 hbox hb; have n0_ := Aside0.mk (below_step (by repeat (first | (with_reducible first | exact HB.out | apply below_alloc | apply pw_below_drewN | apply below_drew1) | exact HB.out)) hb); have n1_ := Aside0.mk (hbox); have n2_ := Aside0.mk ((by rw [hg]; exact (below_size (by repeat (first | (with_reducible first | exact HB.out | apply below_alloc | apply pw_below_drewN | apply below_drew1) | exact HB.out))) : w.heap.size ≤ gb130)); have n3_ := Aside0.mk ((by rw [hg]; exact (below_size (by repeat (first | (with_reducible first | exact HB.out | apply below_alloc | apply pw_below_drewN | apply below_drew1) | exact HB.out))) : w.heap.size ≤ gb130)); clear HB; have HB := n0_; have BK130 := n1_; have GW130 := n2_; have GE130 := n3_; clear n0_ n1_ n2_ n3_; clear hb hbox hg) | ((with_reducible refine gate_callee (f := 66) rfl ?_); refine goesL_ (some 8) rfl rfl Tryz.func66 (by kernel_rfl) rfl #[.slice A0 l0.length c0, .string a1] rfl (by (try simp only [List.map_toArray, List.map_cons, List.map_nil]); first | done | rfl | (simp only [List.length_drop, List.length_take]; rfl)) ?_; (with_reducible refine (opdict_index.calls _ _ l0 a1 t131 _ ?side1 ?side2 A3.out).mono ?_); (case side1 => repeat (first | exact (Kd.C_below HR0.out HB.out) | (with_reducible refine Kd.C_alloc ?_ _) | (with_reducible refine Kd.C_drewN ?_ _) | (with_reducible refine Kd.C_drew ?_))); (case side2 => exact HC0.out); rintro e w8 ⟨rfl, hb⟩; refine ⟨_, rfl, ?_⟩; have n0_ := Aside0.mk (blk_below (g := gb130) (o := .cells #[.string (⟨#[]⟩ : ByteArray), .int .i64 0, .bool false, .bool false] 75 (0, 0)) (by (with_reducible repeat (first | refine blk_drewN ?_ _ | refine blk_drew ?_ | refine blk_alloc ?_ _)); exact BK130.out) hb); have n1_ := Aside0.mk (below_step (by repeat (first | (with_reducible first | exact HB.out | apply below_alloc | apply pw_below_drewN | apply below_drew1 | refine below_set ?_ GE130.out) | exact HB.out)) hb); clear BK130; clear HB; have BK130 := n0_; have HB := n1_; clear n0_ n1_; (try clear hb); (try clear hb2); (try clear hk); (try clear hi); have p132 : 0 ≤ (t131 : Int) := of_decide_eq_true (by first | (with_reducible assumption) | assumption); have q132 : t131 < (l0.length : Int) := of_decide_eq_true (by first | (with_reducible assumption) | assumption); obtain ⟨ad132, e132, hx132_0, hx132_1, hx132_2, hx132_3⟩ := at_T75 HR0.out t131 p132 q132; cases e132; replace hx132_0 := (HB.out.cell (World.block_lt_of_cell? w _ hx132_0)).trans hx132_0; replace hx132_1 := (HB.out.cell (World.block_lt_of_cell? w _ hx132_1)).trans hx132_1; replace hx132_2 := (HB.out.cell (World.block_lt_of_cell? w _ hx132_2)).trans hx132_2; replace hx132_3 := (HB.out.cell (World.block_lt_of_cell? w _ hx132_3)).trans hx132_3; replace p132 := eq_true p132; replace q132 := eq_true q132; have hcz9_0 : w8.cell? ⟨gb130, 0, none⟩ = some (.string (⟨#[]⟩ : ByteArray)) := (blk_cell BK130.out 0).trans rfl; have hcz9_1 : w8.cell? ⟨gb130, 1, none⟩ = some (.int .i64 0) := (blk_cell BK130.out 1).trans rfl; have hcz9_2 : w8.cell? ⟨gb130, 2, none⟩ = some (.bool false) := (blk_cell BK130.out 2).trans rfl; have hcz9_3 : w8.cell? ⟨gb130, 3, none⟩ = some (.bool false) := (blk_cell BK130.out 3).trans rfl; have hfz9_0 := blk_frozen BK130.out 0; have hfz9_1 := blk_frozen BK130.out 1; have hfz9_2 := blk_frozen BK130.out 2; have hfz9_3 := blk_frozen BK130.out 3))
        refine bodyPost_ret (results_cell_row rfl _ _ gb130 75 #[.string ((rd_T75 l0 t131).f0), .int .i64 ((rd_T75 l0 t131).f1), .bool ((rd_T75 l0 t131).f2), .bool ((rd_T75 l0 t131).f3)] (0, 0) _ rfl (by (with_reducible repeat (first | refine blk_drewN ?_ _ | refine blk_drew ?_ | refine blk_alloc ?_ _)); refine blk_put (cs := #[.string ((rd_T75 l0 t131).f0), .int .i64 ((rd_T75 l0 t131).f1), .bool ((rd_T75 l0 t131).f2), .bool false]) ?_ 3 _ rfl; (with_reducible repeat (first | refine blk_drewN ?_ _ | refine blk_drew ?_ | refine blk_alloc ?_ _)); refine blk_put (cs := #[.string ((rd_T75 l0 t131).f0), .int .i64 ((rd_T75 l0 t131).f1), .bool false, .bool false]) ?_ 2 _ rfl; (with_reducible repeat (first | refine blk_drewN ?_ _ | refine blk_drew ?_ | refine blk_alloc ?_ _)); refine blk_put (cs := #[.string ((rd_T75 l0 t131).f0), .int .i64 0, .bool false, .bool false]) ?_ 1 _ rfl; (with_reducible repeat (first | refine blk_drewN ?_ _ | refine blk_drew ?_ | refine blk_alloc ?_ _)); refine blk_put (cs := #[.string (⟨#[]⟩ : ByteArray), .int .i64 0, .bool false, .bool false]) ?_ 0 _ rfl; (with_reducible repeat (first | refine blk_drewN ?_ _ | refine blk_drew ?_ | refine blk_alloc ?_ _)); exact BK130.out) Tryz.underlying75 rfl (by kernel_rfl)) rfl ?_
        exact ⟨by first | rfl | (simp [errW_none, errW_some] <;> rfl) | (simp [*, errW_none, errW_some] <;> rfl), by repeat (first | (with_reducible first | exact HB.out | apply below_alloc | apply pw_below_drewN | apply below_drew1 | refine below_set ?_ GE130.out) | exact HB.out)⟩
      · rw [if_neg c6] at H
        exact absurd H (by simp)
    · rw [if_neg c5] at H
      exact absurd H (by simp)
  · rw [if_neg c4] at H
    have c4b0 : decide (0 ≤ t131) = false := decide_eq_false c4
    clear c4
    simp only [Option.some.injEq, Prod.mk.injEq] at H
    obtain ⟨rfl, rfl, rfl, rfl⟩ := H
    go_enter Tryz.func41, Tryz.ntmps41
    go_wp2_with (first | ((with_reducible refine gate_dst (N := 4) rfl ?_); refine box_event ?hg (N := 4) ?hd (cs := #[.string (⟨#[]⟩ : ByteArray), .int .i64 0, .bool false, .bool false]) (t := 75) ?hr ?_; (case hd => rfl); (case hg => rfl); (case hr => first | (go_simp; done) | (go_simp; rfl)); intro gb130 hg w10 hbox hb; have n0_ := Aside0.mk (below_step (by repeat (first | (with_reducible first | exact HB.out | apply below_alloc | apply pw_below_drewN | apply below_drew1) | exact HB.out)) hb); have n1_ := Aside0.mk (hbox); have n2_ := Aside0.mk ((by rw [hg]; exact (below_size (by repeat (first | (with_reducible first | exact HB.out | apply below_alloc | apply pw_below_drewN | apply below_drew1) | exact HB.out))) : w.heap.size ≤ gb130)); have n3_ := Aside0.mk ((by rw [hg]; exact (below_size (by repeat (first | (with_reducible first | exact HB.out | apply below_alloc | apply pw_below_drewN | apply below_drew1) | exact HB.out))) : w.heap.size ≤ gb130)); clear HB; have HB := n0_; have BK130 := n1_; have GW130 := n2_; have GE130 := n3_; clear n0_ n1_ n2_ n3_; clear hb hbox hg) | ((with_reducible refine gate_callee (f := 66) rfl ?_); refine goesL_ (some 8) rfl rfl Tryz.func66 (by kernel_rfl) rfl #[.slice A0 l0.length c0, .string a1] rfl (by (try simp only [List.map_toArray, List.map_cons, List.map_nil]); first | done | rfl | (simp only [List.length_drop, List.length_take]; rfl)) ?_; (with_reducible refine (opdict_index.calls _ _ l0 a1 t131 _ ?side1 ?side2 A3.out).mono ?_); (case side1 => repeat (first | exact (Kd.C_below HR0.out HB.out) | (with_reducible refine Kd.C_alloc ?_ _) | (with_reducible refine Kd.C_drewN ?_ _) | (with_reducible refine Kd.C_drew ?_))); (case side2 => exact HC0.out); rintro e w11 ⟨rfl, hb⟩; refine ⟨_, rfl, ?_⟩; have n0_ := Aside0.mk (blk_below (g := gb130) (o := .cells #[.string (⟨#[]⟩ : ByteArray), .int .i64 0, .bool false, .bool false] 75 (0, 0)) (by (with_reducible repeat (first | refine blk_drewN ?_ _ | refine blk_drew ?_ | refine blk_alloc ?_ _)); exact BK130.out) hb); have n1_ := Aside0.mk (below_step (by repeat (first | (with_reducible first | exact HB.out | apply below_alloc | apply pw_below_drewN | apply below_drew1 | refine below_set ?_ GE130.out) | exact HB.out)) hb); clear BK130; clear HB; have BK130 := n0_; have HB := n1_; clear n0_ n1_; (try clear hb); (try clear hb2); (try clear hk); (try clear hi); have hcz12_0 : w11.cell? ⟨gb130, 0, none⟩ = some (.string (⟨#[]⟩ : ByteArray)) := (blk_cell BK130.out 0).trans rfl; have hcz12_1 : w11.cell? ⟨gb130, 1, none⟩ = some (.int .i64 0) := (blk_cell BK130.out 1).trans rfl; have hcz12_2 : w11.cell? ⟨gb130, 2, none⟩ = some (.bool false) := (blk_cell BK130.out 2).trans rfl; have hcz12_3 : w11.cell? ⟨gb130, 3, none⟩ = some (.bool false) := (blk_cell BK130.out 3).trans rfl; have hfz12_0 := blk_frozen BK130.out 0; have hfz12_1 := blk_frozen BK130.out 1; have hfz12_2 := blk_frozen BK130.out 2; have hfz12_3 := blk_frozen BK130.out 3))
    refine bodyPost_ret (results_cell_row rfl _ _ gb130 75 #[.string a1, .int .i64 0, .bool false, .bool false] (0, 0) _ rfl (by (with_reducible repeat (first | refine blk_drewN ?_ _ | refine blk_drew ?_ | refine blk_alloc ?_ _)); refine blk_put (cs := #[.string a1, .int .i64 0, .bool false, .bool false]) ?_ 3 _ rfl; (with_reducible repeat (first | refine blk_drewN ?_ _ | refine blk_drew ?_ | refine blk_alloc ?_ _)); refine blk_put (cs := #[.string a1, .int .i64 0, .bool false, .bool false]) ?_ 2 _ rfl; (with_reducible repeat (first | refine blk_drewN ?_ _ | refine blk_drew ?_ | refine blk_alloc ?_ _)); refine blk_put (cs := #[.string a1, .int .i64 0, .bool false, .bool false]) ?_ 1 _ rfl; (with_reducible repeat (first | refine blk_drewN ?_ _ | refine blk_drew ?_ | refine blk_alloc ?_ _)); refine blk_put (cs := #[.string (⟨#[]⟩ : ByteArray), .int .i64 0, .bool false, .bool false]) ?_ 0 _ rfl; (with_reducible repeat (first | refine blk_drewN ?_ _ | refine blk_drew ?_ | refine blk_alloc ?_ _)); exact BK130.out) Tryz.underlying75 rfl (by kernel_rfl)) rfl ?_
    exact ⟨by first | rfl | (simp [errW_none, errW_some] <;> rfl) | (simp [*, errW_none, errW_some] <;> rfl), by repeat (first | (with_reducible first | exact HB.out | apply below_alloc | apply pw_below_drewN | apply below_drew1 | refine below_set ?_ GE130.out) | exact HB.out)⟩
end Go.Proofs.YthdppkmmfjaiaaaGreatDoor.G
namespace Go.Proofs.YthdppkmmfjaiaaaGreatDoor.G
open Go.RowKit Go.Proofs.YthdppkmmfjaiaaaGreatDoorW.PrintWords Go.Proofs.YthdppkmmfjaiaaaGreatDoorW.PrintLast Go.Proofs.YthdppkmmfjaiaaaGreatDoorW.PrintMore
attribute [local go_sem] max2_int min2_int max_two min_two max_three min_three max_four min_four
set_option linter.unusedVariables false
set_option linter.unusedSimpArgs false
section cls
def cls (d : List (S75)) : Nat → S48 → Option Int
  | 0, _ => none
  | k + 1, x => if x.f0 = 2 then (opdict_Find.f d x.f1).map (fun r => r.2.1) else if x.f0 = 7 ∨ x.f0 = 8 ∨ x.f0 = 9 then (if 0 < x.f3.length then (if (rd_T48 x.f3 0).f3.length = 1 then cls d k (rd_T48 (rd_T48 x.f3 0).f3 0) else some 0) else some 0) else if x.f0 = 5 ∨ x.f0 = 11 ∨ x.f0 = 12 then some 7 else some 0
theorem cls.mono (d : List (S75)) : ∀ (k : Nat) (x : S48), LeO (cls d k x) (cls d (k + 1) x) := by
  intro k
  induction k with
  | zero => intro x r h; simp [cls] at h
  | succ k ih => intro x; rw [cls, cls]; exact LeO.ite (LeO.refl _) (LeO.ite (LeO.ite (LeO.ite (ih _) (LeO.refl _)) (LeO.refl _)) (LeO.refl _))
set_option maxHeartbeats 8000000 in
set_option maxRecDepth 100000 in
theorem cls_calls (d : List (S75)) (Ad : Option Addr) (cd bd bf : Nat) (k : Nat) : ∀ (x : S48) (A : Option Addr) (c : Nat) (v : Int) (w : World) (hbd : w.heap[bd]? = some (.cells #[.slice Ad d.length cd] 22 (0, 0)))
    (hbf : w.heap[bf]? = some (.cells #[.func (.func 40) #[] #[.pointer (some ⟨bd, 0, none⟩), .pointer (some ⟨bf, 0, none⟩)]] 78 (0, 0)))
    (hD : Kd.C k75 w Ad d.length d) (hcd : d.length ≤ cd) (hC : Kd.C k48 w A x.f3.length x.f3) (hc : x.f3.length ≤ c) (h : cls d k x = some v),
    Calls Tryz.prog 40 #[.agg #[.int .i64 x.f0, .string x.f1, .int .i64 x.f2, .slice A x.f3.length c], .pointer (some ⟨bd, 0, none⟩), .pointer (some ⟨bf, 0, none⟩)] w fun e w' => e = .returned (.int .i64 v) ∧ Below w.heap.size w w' := by
  have hu36 := Tryz.underlying48
  have hu68 := Tryz.underlying75
  have hfd : ∀ (x0 x1 x2 x3 : Value) (W : World), (Instr.field 75 (.agg #[x0, x1, x2, x3]) 1).run Tryz.prog W = .ok x1 W := fun _ _ _ _ _ => by kernel_rfl
  induction k with
  | zero => intro x A c v w _ _ _ _ _ _ h; simp [cls] at h
  | succ k ih =>
  intro x A c v w hbd hbf hD hcd hC hc h
  rcases x with ⟨x0, x1, x2, x3⟩
  simp only at hC hc ⊢
  rw [cls] at h
  simp only at h
  have IH := Aside0.mk ih
  have HBD := Aside0.mk hbd
  have HBF := Aside0.mk hbf
  have HD := Aside0.mk hD
  have HCD := Aside0.mk hcd
  have HC := Aside0.mk hC
  have HCC := Aside0.mk hc
  have hm := hC.2.1
  have HB0 := Aside0.mk (below_alloc (Below.refl w.heap.size w) (.cells #[.int .i64 x0, .string x1, .int .i64 x2, .slice A x3.length c] 48))
  have y1 : (w.alloc (.cells #[.int .i64 x0, .string x1, .int .i64 x2, .slice A x3.length c] 48)).cell? ⟨bd, 0, none⟩ = some (.slice Ad d.length cd) := (blk_cell (blk_alloc hbd _) 0).trans rfl
  have y2 : (w.alloc (.cells #[.int .i64 x0, .string x1, .int .i64 x2, .slice A x3.length c] 48)).cell? ⟨bf, 0, none⟩ = some (.func (.func 40) #[] #[.pointer (some ⟨bd, 0, none⟩), .pointer (some ⟨bf, 0, none⟩)]) := (blk_cell (blk_alloc hbf _) 0).trans rfl
  have l1 := blk_lt hbd
  have l2 := blk_lt hbf
  have n1 : bd ≠ w.heap.size := by omega
  have n2 : bf ≠ w.heap.size := by omega
  clear ih hbd hbf hD hcd hC hc l1 l2
  by_cases k2 : x0 = 2
  · subst k2
    rw [if_pos rfl] at h
    obtain ⟨⟨r1, r2, r3, r4⟩, hf, hv⟩ := Option.map_eq_some_iff.1 h
    simp only at hv
    subst hv
    have HF := Aside0.mk hf
    clear hf h
    go_enter Tryz.func40, Tryz.ntmps40
    go_wp2_with fail
    refine (opdict_Find.calls Ad cd d x1 r1 r2 r3 r4 _ (Kd.C_below HD.out HB0.out) HCD.out HF.out).mono ?_
    rintro e w2 ⟨rfl, hb⟩
    have HB2 := Aside0.mk (below_step HB0.out hb)
    clear hb
    go_wp2
    go_ret
    exact ⟨rfl, HB2.out⟩
  rw [if_neg k2] at h
  have e2 : (x0 == 2) = false := beq_eq_false_iff_ne.2 k2
  by_cases k7 : x0 = 7 ∨ x0 = 8 ∨ x0 = 9
  · rw [if_pos k7] at h
    by_cases hl : 0 < x3.length
    · rw [if_pos hl] at h
      have d1 : decide (0 < (x3.length : Int)) = true := decide_eq_true (by omega)
      obtain ⟨ad, A3, c3, e0, q0, q1, q2, q3, hle, hie⟩ := at_T48 (Kd.C_below HC.out HB0.out) 0 (by omega) (by omega)
      subst e0
      have ea : ad.add 0 = ad := by unfold Addr.add; split <;> simp_all
      simp only [Int.toNat_zero, Nat.zero_mul, ea] at q0 q1 q2 q3
      clear ea
      by_cases h1 : (rd_T48 x3 0).f3.length = 1
      · rw [if_pos h1] at h
        have d2 : (((rd_T48 x3 0).f3.length : Int) == 1) = true := by simp; omega
        have d3 : decide (0 < ((rd_T48 x3 0).f3.length : Int)) = true := decide_eq_true (by omega)
        obtain ⟨ad2, A4, c4, e1, z0, z1, z2, z3, hle2, hie2⟩ := at_T48 hie 0 (by omega) (by omega)
        subst e1
        have ea : ad2.add 0 = ad2 := by unfold Addr.add; split <;> simp_all
        simp only [Int.toNat_zero, Nat.zero_mul, ea] at z0 z1 z2 z3
        clear ea
        have HI := Aside0.mk (IH.out _ A4 c4 v _ (blk_drew (blk_alloc HBD.out _)) (blk_drew (blk_alloc HBF.out _)) (Kd.C_drew (Kd.C_below HD.out HB0.out)) HCD.out (Kd.C_drew hie2) hle2 h)
        clear h hie hle hie2 hle2
        rcases k7 with rfl | rfl | rfl
        all_goals
          go_enter Tryz.func40, Tryz.ntmps40
          go_wp2
          go_region_with (go_at_call 40; refine HI.out.mono ?_; rintro e w2 ⟨rfl, hb⟩; have HB2 := Aside0.mk (below_step (below_drew1 HB0.out) hb); clear hb)
          all_goals
            go_wp2
            go_ret
            exact ⟨rfl, HB2.out⟩
      · rw [if_neg h1] at h
        have d2 : (((rd_T48 x3 0).f3.length : Int) == 1) = false := by simp; omega
        obtain rfl := Option.some.inj h
        clear h
        rcases k7 with rfl | rfl | rfl
        all_goals
          go_enter Tryz.func40, Tryz.ntmps40
          go_wp2
          go_ret
          exact ⟨rfl, HB0.out⟩
    · rw [if_neg hl] at h
      obtain rfl := Option.some.inj h
      have d1 : decide (0 < (x3.length : Int)) = false := decide_eq_false (by omega)
      clear h
      rcases k7 with rfl | rfl | rfl
      all_goals
        go_enter Tryz.func40, Tryz.ntmps40
        go_wp2
        go_ret
        exact ⟨rfl, HB0.out⟩
  rw [if_neg k7] at h
  have e7 : (x0 == 7) = false := beq_eq_false_iff_ne.2 (by omega)
  have e8 : (x0 == 8) = false := beq_eq_false_iff_ne.2 (by omega)
  have e9 : (x0 == 9) = false := beq_eq_false_iff_ne.2 (by omega)
  by_cases k5 : x0 = 5 ∨ x0 = 11 ∨ x0 = 12
  · rw [if_pos k5] at h
    obtain rfl := Option.some.inj h
    clear h e7 e8 e9 e2 k7 k2
    rcases k5 with rfl | rfl | rfl
    all_goals
      go_enter Tryz.func40, Tryz.ntmps40
      go_wp2
      go_ret
      exact ⟨rfl, HB0.out⟩
  · rw [if_neg k5] at h
    obtain rfl := Option.some.inj h
    have e5 : (x0 == 5) = false := beq_eq_false_iff_ne.2 (by omega)
    have e11 : (x0 == 11) = false := beq_eq_false_iff_ne.2 (by omega)
    have e12 : (x0 == 12) = false := beq_eq_false_iff_ne.2 (by omega)
    clear h k5 k7 k2
    go_enter Tryz.func40, Tryz.ntmps40
    go_wp2
    go_ret
    exact ⟨rfl, HB0.out⟩
end cls
end Go.Proofs.YthdppkmmfjaiaaaGreatDoor.G
namespace Go.Proofs.YthdppkmmfjaiaaaGreatDoor.G
open Go.RowKit Go.Proofs.YthdppkmmfjaiaaaGreatDoorW.PrintWords Go.Proofs.YthdppkmmfjaiaaaGreatDoorW.PrintLast Go.Proofs.YthdppkmmfjaiaaaGreatDoorW.PrintMore
attribute [local go_sem] max2_int min2_int max_two min_two max_three min_three max_four min_four
set_option linter.unusedVariables false
set_option linter.unusedSimpArgs false
def atom_Class.f (k : Nat) (l0 : List (S75)) (a1_0 : Int) (a1_1 : ByteArray) (a1_2 : Int) (l1_3 : List (S48)) : Option Int := cls l0 k ⟨a1_0, a1_1, a1_2, l1_3⟩
set_option maxHeartbeats 2000000 in
set_option maxRecDepth 100000 in

theorem atom_Class.calls (k : Nat) (A0 : Option Addr) (c0 : Nat) (l0 : List (S75)) (a1_0 : Int) (a1_1 : ByteArray) (a1_2 : Int) (A1_3 : Option Addr) (c1_3 : Nat) (l1_3 : List (S48)) (r : Int) (w : World) (hr0 : Kd.C k75 w A0 l0.length l0) (hc0 : l0.length ≤ c0) (hr1_3 : Kd.C k48 w A1_3 l1_3.length l1_3) (hc1_3 : l1_3.length ≤ c1_3) (h : atom_Class.f k l0 a1_0 a1_1 a1_2 l1_3 = some r) :
    Calls Tryz.prog 21 #[.slice A0 l0.length c0, .agg #[.int .i64 a1_0, .string a1_1, .int .i64 a1_2, .slice A1_3 l1_3.length c1_3]] w fun e w' => e = .returned (.int .i64 r) ∧ Below w.heap.size w w' := by
  have hu36 := Tryz.underlying48
  have X1 := blk_alloc (blk_alloc (blk_new w (.cells #[.slice A0 l0.length c0] 22)) (.cells #[.int .i64 a1_0, .string a1_1, .int .i64 a1_2, .slice A1_3 l1_3.length c1_3] 48)) (.cells #[.func (.func 40) #[] #[.pointer (some ⟨w.heap.size, 0, none⟩), .pointer (some ⟨w.heap.size + 2, 0, none⟩)]] 78)
  have X2 := blk_new ((w.alloc (.cells #[.slice A0 l0.length c0] 22)).alloc (.cells #[.int .i64 a1_0, .string a1_1, .int .i64 a1_2, .slice A1_3 l1_3.length c1_3] 48)) (.cells #[.func (.func 40) #[] #[.pointer (some ⟨w.heap.size, 0, none⟩), .pointer (some ⟨w.heap.size + 2, 0, none⟩)]] 78)
  rw [World.size_alloc, World.size_alloc] at X2
  have HB := Aside0.mk (below_alloc (below_alloc (below_alloc (Below.refl w.heap.size w) (.cells #[.slice A0 l0.length c0] 22)) (.cells #[.int .i64 a1_0, .string a1_1, .int .i64 a1_2, .slice A1_3 l1_3.length c1_3] 48)) (.cells #[.func (.func 40) #[] #[.pointer (some ⟨w.heap.size, 0, none⟩), .pointer (some ⟨w.heap.size + 2, 0, none⟩)]] 78))
  have H := Aside0.mk (cls_calls l0 A0 c0 w.heap.size (w.heap.size + 2) k ⟨a1_0, a1_1, a1_2, l1_3⟩ A1_3 c1_3 r _ X1 X2 (Kd.C_below hr0 HB.out) hc0 (Kd.C_below hr1_3 HB.out) hc1_3 h)
  clear X1 X2 hr0 hc0 hr1_3 hc1_3 h
  go_enter Tryz.func21, Tryz.ntmps21
  go_wp2_with fail
  refine H.out.mono ?_
  rintro e w2 ⟨rfl, hb⟩
  have HB2 := Aside0.mk (below_step HB.out hb)
  clear hb
  go_wp2
  go_ret
  exact ⟨rfl, HB2.out⟩
end Go.Proofs.YthdppkmmfjaiaaaGreatDoor.G
