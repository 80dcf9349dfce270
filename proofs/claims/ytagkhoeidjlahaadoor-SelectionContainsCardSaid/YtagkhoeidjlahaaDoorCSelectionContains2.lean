-- Written by pack.py, a program of this session: this session's texts and those that the kit's printer wrote for this claim, pruned to what the claim uses.
import Derived.Test.YtagkhoeidjlahaaDoorCSelectionContains1
import Derived.Shelf.Strings.Search1
import Derived.Shelf.Strings.Search2
import Derived.Shelf.Strings.SlTrimAscii
import Derived.Test.YtagkhoeidjlahaaDoorProg
import Derived.Below
import Derived.Deep.Draws
import Derived.Deep.AppendLies
import Derived.Maps.AppendAt
import Derived.OwnWalk
import Derived.Laws.BytesArg
import Derived.Laws.MakeOwn
import Derived.Laws.OwnMore
import Derived.Deep.OwnRows
import Derived.Tactics
import Derived.Lib.ConvBytes
import Derived.Laws.Slices
import Derived.WalkKit
import Derived.KernelRfl
import Derived.RowKit3
import Derived.Deep.LoopGhost
import Derived.Deep.QuietTactic
import Derived.BigQuiet
import Derived.WideLaws
import Derived.Deep.DeepCutAuto
import Derived.Deep.CutBlock
import Derived.Deep.RegionHeld3
import Derived.Laws.Rows
import Derived.Lib.AppendStr
import Derived.ArgAppend
import Derived.Laws.IdiomCopy
import Derived.OrdersHeld
import Derived.Laws.BitsLemmas
import Derived.RowKit
import Derived.Lib.SliceRun
import Derived.Laws.EntriesVeiled
import Derived.RegionTactic
import Derived.ChangeAlike
import Derived.ChangeArms
import Derived.DataReads
import Derived.OpenShut
import Derived.Lib.IndexLaws
import Derived.Lib.Strings
import Derived.Lib.SlTrimSet
namespace Go.Proofs
open Go.Shelf
def Tryd.lays219_ren : Go.Shelf.Ren := ⟨fun | 219 => 146 | 217 => 154 | 225 => 155 | 224 => 156 | 267 => 157 | 266 => 162 | 314 => 163 | n => n, fun | 9 => 9 | 3 => 3 | 4 => 4 | 5 => 5 | 46 => 98 | 146 => 145 | 51 => 144 | n => n, fun | 1 => 0 | n => n⟩
theorem Tryd.lays219 : Go.Proofs.Lays.n219 Tryd.prog Tryd.lays219_ren := {
  mixed := by kernel_rfl
  f217 := Tryd.func154.trans (congrArg some (by kernel_rfl))
  f219 := Tryd.func146.trans (congrArg some (by kernel_rfl))
  f224 := Tryd.func156.trans (congrArg some (by kernel_rfl))
  f225 := Tryd.func155.trans (congrArg some (by kernel_rfl))
  f266 := Tryd.func162.trans (congrArg some (by kernel_rfl))
  f267 := Tryd.func157.trans (congrArg some (by kernel_rfl))
  f314 := Tryd.func163.trans (congrArg some (by kernel_rfl))
  t3 := Tryd.underlying3
  a3 := Tryd.isAgg3
  z3 := Tryd.sizeOf3
  v3 := Tryd.zeroValue3
  t4 := Tryd.underlying4
  a4 := Tryd.isAgg4
  z4 := Tryd.sizeOf4
  v4 := Tryd.zeroValue4
  t5 := Tryd.underlying5
  a5 := Tryd.isAgg5
  z5 := Tryd.sizeOf5
  v5 := Tryd.zeroValue5
  t9 := Tryd.underlying9
  a9 := Tryd.isAgg9
  z9 := Tryd.sizeOf9
  v9 := Tryd.zeroValue9
  t46 := Tryd.underlying98
  a46 := Tryd.isAgg98
  z46 := Tryd.sizeOf98
  v46 := Tryd.zeroValue98
  t51 := Tryd.underlying144
  a51 := Tryd.isAgg144
  z51 := Tryd.sizeOf144
  v51 := Tryd.zeroValue144
  t146 := Tryd.underlying145
  a146 := Tryd.isAgg145
  z146 := Tryd.sizeOf145
  v146 := Tryd.zeroValue145
  g1 := by kernel_rfl }
def Tryd.lays160_ren : Go.Shelf.Ren := ⟨fun | 160 => 145 | 232 => 148 | 231 => 147 | 227 => 149 | 234 => 151 | 233 => 150 | 236 => 153 | 235 => 152 | 228 => 158 | 271 => 161 | 151 => 160 | 197 => 159 | 120 => 166 | 152 => 165 | 260 => 164 | 137 => 167 | 119 => 168 | 224 => 156 | 225 => 155 | 217 => 154 | 266 => 162 | n => n, fun | 9 => 9 | 4 => 4 | 3 => 3 | 5 => 5 | 117 => 135 | 116 => 134 | 0 => 0 | 124 => 138 | 21 => 21 | 105 => 141 | 46 => 98 | 119 => 148 | 139 => 151 | 138 => 150 | n => n, fun | 3 => 1 | 4 => 2 | n => n⟩
theorem Tryd.lays160 : Go.Proofs.Lays.n160 Tryd.prog Tryd.lays160_ren := {
  mixed := by kernel_rfl
  f119 := Tryd.func168.trans (congrArg some (by kernel_rfl))
  f120 := Tryd.func166.trans (congrArg some (by kernel_rfl))
  f137 := Tryd.func167.trans (congrArg some (by kernel_rfl))
  f151 := Tryd.func160.trans (congrArg some (by kernel_rfl))
  f152 := Tryd.func165.trans (congrArg some (by kernel_rfl))
  f160 := Tryd.func145.trans (congrArg some (by kernel_rfl))
  f197 := Tryd.func159.trans (congrArg some (by kernel_rfl))
  f217 := Tryd.func154.trans (congrArg some (by kernel_rfl))
  f224 := Tryd.func156.trans (congrArg some (by kernel_rfl))
  f225 := Tryd.func155.trans (congrArg some (by kernel_rfl))
  f227 := Tryd.func149.trans (congrArg some (by kernel_rfl))
  f228 := Tryd.func158.trans (congrArg some (by kernel_rfl))
  f231 := Tryd.func147.trans (congrArg some (by kernel_rfl))
  f232 := Tryd.func148.trans (congrArg some (by kernel_rfl))
  f233 := Tryd.func150.trans (congrArg some (by kernel_rfl))
  f234 := Tryd.func151.trans (congrArg some (by kernel_rfl))
  f235 := Tryd.func152.trans (congrArg some (by kernel_rfl))
  f236 := Tryd.func153.trans (congrArg some (by kernel_rfl))
  f260 := Tryd.func164.trans (congrArg some (by kernel_rfl))
  f266 := Tryd.func162.trans (congrArg some (by kernel_rfl))
  f271 := Tryd.func161.trans (congrArg some (by kernel_rfl))
  t0 := Tryd.underlying0
  a0 := Tryd.isAgg0
  z0 := Tryd.sizeOf0
  v0 := Tryd.zeroValue0
  t3 := Tryd.underlying3
  a3 := Tryd.isAgg3
  z3 := Tryd.sizeOf3
  v3 := Tryd.zeroValue3
  t4 := Tryd.underlying4
  a4 := Tryd.isAgg4
  z4 := Tryd.sizeOf4
  v4 := Tryd.zeroValue4
  t5 := Tryd.underlying5
  a5 := Tryd.isAgg5
  z5 := Tryd.sizeOf5
  v5 := Tryd.zeroValue5
  t9 := Tryd.underlying9
  a9 := Tryd.isAgg9
  z9 := Tryd.sizeOf9
  v9 := Tryd.zeroValue9
  t21 := Tryd.underlying21
  a21 := Tryd.isAgg21
  z21 := Tryd.sizeOf21
  v21 := Tryd.zeroValue21
  t46 := Tryd.underlying98
  a46 := Tryd.isAgg98
  z46 := Tryd.sizeOf98
  v46 := Tryd.zeroValue98
  t105 := Tryd.underlying141
  a105 := Tryd.isAgg141
  z105 := Tryd.sizeOf141
  v105 := Tryd.zeroValue141
  t116 := Tryd.underlying134
  a116 := Tryd.isAgg134
  z116 := Tryd.sizeOf134
  t117 := Tryd.underlying135
  a117 := Tryd.isAgg135
  z117 := Tryd.sizeOf135
  v117 := Tryd.zeroValue135
  t119 := Tryd.underlying148
  a119 := Tryd.isAgg148
  z119 := Tryd.sizeOf148
  t124 := Tryd.underlying138
  a124 := Tryd.isAgg138
  z124 := Tryd.sizeOf138
  v124 := Tryd.zeroValue138
  t138 := Tryd.underlying150
  a138 := Tryd.isAgg150
  z138 := Tryd.sizeOf150
  v138 := Tryd.zeroValue150
  t139 := Tryd.underlying151
  a139 := Tryd.isAgg151
  z139 := Tryd.sizeOf151
  v139 := Tryd.zeroValue151
  g3 := by kernel_rfl
  g4 := by kernel_rfl }
end Go.Proofs
namespace Go.Proofs.YtagkhoeidjlahaaDoor.G
open Go.RowKit Go.Proofs.YtagkhoeidjlahaaDoorW.PrintWords Go.Proofs.YtagkhoeidjlahaaDoorW.PrintLast Go.Proofs.YtagkhoeidjlahaaDoorW.PrintMore
attribute [local go_sem] max2_int min2_int max_two min_two max_three min_three max_four min_four
set_option linter.unusedVariables false
set_option linter.unusedSimpArgs false
def errW : Option Int → Value
  | none => .nilIface
  | some c => .iface 0 (.int .i64 c)
theorem errW_none : errW none = .nilIface := rfl
theorem errW_some (c : Int) : errW (some c) = .iface 0 (.int .i64 c) := rfl
theorem info3 : (Tryd.prog.info? 3).map (fun i => (i.zero, i.size, i.bytes)) = some (some (.int .i64 0), 1, 8) := by kernel_rfl
theorem info26 : (Tryd.prog.info? 26).map (fun i => (i.zero, i.size, i.bytes)) = some (some (.slice none 0 0), 1, 24) := by kernel_rfl
structure S68 where
  f0 : ByteArray
  f1 : Int
  f2 : Bool
  f3 : Bool
structure S36 where
  f0 : Int
  f1 : ByteArray
  f2 : Int
  f3 : (List S36)
def z36 : S36 := ⟨(0 : Int), (⟨#[]⟩ : ByteArray), (0 : Int), ([] : List S36)⟩
def F36 (d : Kd S36) : Kd S36 := Kd.iso (Kd.pair (Kd.int .i64) (Kd.pair Kd.string (Kd.pair (Kd.int .i64) (Kd.slice 36 d)))) (fun x : S36 => (x.f0, x.f1, x.f2, x.f3))
theorem mono36 : Kd.Mono F36 := Kd.mono_iso _ (Kd.mono_pair (Kd.mono_const _) (Kd.mono_pair (Kd.mono_const _) (Kd.mono_pair (Kd.mono_const _) (Kd.mono_slice 36 Kd.mono_id))))
theorem sub36 : Kd.Sub F36 [36] := Kd.sub_iso _ (Kd.sub_pair (Kd.sub_const _ (by decide)) (Kd.sub_pair (Kd.sub_const _ (by decide)) (Kd.sub_pair (Kd.sub_const _ (by decide)) (Kd.sub_slice 36 (by decide) Kd.sub_id))))
theorem sz36 : ∀ n, (Kd.upto F36 4 [36] n).sz = 4 := Kd.upto_sz (fun _ => rfl)
def k36 : Kd S36 := Kd.fix F36 4 [36] sz36 (Kd.upto_E sub36)
theorem k36_open {w : World} {x : S36} {cs : List Value} (h : k36.K w x cs) : ∃ A3 c3, cs = [.int .i64 x.f0, .string x.f1, .int .i64 x.f2, .slice A3 x.f3.length c3] ∧ x.f3.length ≤ c3 ∧ k36.C w A3 x.f3.length x.f3 := by
  obtain ⟨n, h⟩ := h
  cases n with
  | zero => exact h.elim
  | succ n =>
    obtain ⟨_, _, rfl, rfl, ⟨_, _, rfl, rfl, ⟨_, _, rfl, rfl, ⟨A3, c3, rfl, l3, g3⟩⟩⟩⟩ := h
    exact ⟨A3, c3, rfl, l3, Kd.fix_C g3⟩
theorem k36_mk (w : World) (x : S36) {A3 : Option Addr} {c3 : Nat} (l3 : x.f3.length ≤ c3) (g3 : k36.C w A3 x.f3.length x.f3) : k36.K w x [.int .i64 x.f0, .string x.f1, .int .i64 x.f2, .slice A3 x.f3.length c3] := by
  obtain ⟨n3, q3⟩ := Kd.fix_C_back mono36 g3
  have r3 := Kd.upto_C_le mono36 sz36 (show n3 ≤ n3 by omega) q3
  exact ⟨n3 + 1, ⟨[.int .i64 x.f0], [.string x.f1, .int .i64 x.f2, .slice A3 x.f3.length c3], rfl, rfl, ⟨[.string x.f1], [.int .i64 x.f2, .slice A3 x.f3.length c3], rfl, rfl, ⟨[.int .i64 x.f2], [.slice A3 x.f3.length c3], rfl, rfl, ⟨A3, c3, rfl, l3, r3⟩⟩⟩⟩⟩
def rd_T36 (xs : List S36) (i : Int) : S36 := xs.getD i.toNat z36
theorem at_T36 {w : World} {A : Option Addr} {n : Nat} {xs : List S36} (h : Kd.C k36 w A n xs) (i : Int) (h0 : 0 ≤ i) (h1 : i < n) : ∃ ad A3 c3, A = some ad ∧ w.cell? (ad.add (i.toNat * 4)) = some (.int .i64 (rd_T36 xs i).f0) ∧ w.cell? ⟨(ad.add (i.toNat * 4)).block, (ad.add (i.toNat * 4)).off + 1, none⟩ = some (.string (rd_T36 xs i).f1) ∧ w.cell? ⟨(ad.add (i.toNat * 4)).block, (ad.add (i.toNat * 4)).off + 2, none⟩ = some (.int .i64 (rd_T36 xs i).f2) ∧ w.cell? ⟨(ad.add (i.toNat * 4)).block, (ad.add (i.toNat * 4)).off + 3, none⟩ = some (.slice A3 (rd_T36 xs i).f3.length c3) ∧ (rd_T36 xs i).f3.length ≤ c3 ∧ k36.C w A3 (rd_T36 xs i).f3.length (rd_T36 xs i).f3 := by
  obtain ⟨ad, c, e, _, hK, hc0⟩ := Kd.C_get h z36 i h0 h1
  have hc : ∀ j u, c[j]? = some u → w.cell? (ad.add (i.toNat * 4 + j)) = some u := hc0
  obtain ⟨A3, c3, rfl, l3, g3⟩ := k36_open hK
  exact ⟨ad, A3, c3, e, hc 0 _ rfl, by rw [← add_field _ _ 1 (by omega)]; exact hc 1 _ rfl, by rw [← add_field _ _ 2 (by omega)]; exact hc 2 _ rfl, by rw [← add_field _ _ 3 (by omega)]; exact hc 3 _ rfl, l3, g3⟩
def rd_L5 (xs : List (List Int)) (i : Int) : (List Int) := xs.getD i.toNat ([] : List Int)
theorem at_L5 {w : World} {A : Option Addr} {n : Nat} {xs : List (List Int)} (h : Kd.C (Kd.slice 3 (Kd.int .i64)) w A n xs) (i : Int) (h0 : 0 ≤ i) (h1 : i < n) : ∃ ad A0 c0, A = some ad ∧ w.cell? (ad.add i.toNat) = some (.slice A0 (rd_L5 xs i).length c0) ∧ (rd_L5 xs i).length ≤ c0 ∧ (Kd.int .i64).C w A0 (rd_L5 xs i).length (rd_L5 xs i) := by
  obtain ⟨ad, c, e, _, hK, hc0⟩ := Kd.C_get h ([] : List Int) i h0 h1
  have hc : ∀ j u, c[j]? = some u → w.cell? (ad.add (i.toNat * 1 + j)) = some u := hc0
  obtain ⟨A0, c0, rfl, l0, g0⟩ := hK
  exact ⟨ad, A0, c0, e, by have hq := hc 0 _ rfl; rwa [Nat.mul_one, Nat.add_zero] at hq, l0, g0⟩
theorem own_len_N {α : Type} {d : Kd α} {e base : Nat} {w w' : World} {ok : Nat → Prop} {v : Value} {xs : List α} {P : Program} {t ty : TypeId} {β : Type} {f : Value → World → Result β} (h : Aside0 (Kd.N d e w base ok v xs)) (hu : P.underlying t = some (.slice (P.elem t))) : ((Builtin.len_ #[t] ty #[v]).run P w').andThen f = f (.int .i64 xs.length) w' := by
  obtain ⟨A, c, rfl⟩ := Kd.N_slice h.out
  rw [run_len_slice _ t ty A xs.length c hu]; rfl
theorem own_len_R {α : Type} {d : Kd α} {e base : Nat} {w w' : World} {ok : Nat → Prop} {v : Value} {xs : List α} {P : Program} {t ty : TypeId} {β : Type} {f : Value → World → Result β} (h : Aside0 (Kd.R d e w base ok v xs)) (hu : P.underlying t = some (.slice (P.elem t))) : ((Builtin.len_ #[t] ty #[v]).run P w').andThen f = f (.int .i64 xs.length) w' := by
  obtain ⟨A, c, rfl⟩ := Kd.R_slice h.out
  rw [run_len_slice _ t ty A xs.length c hu]; rfl
theorem calls_args {P : Program} {f : FuncId} {args args' : Array Value} {w : World} {Q : Ending → World → Prop} (h : args = args') (c : Calls P f args' w Q) : Calls P f args w Q := h ▸ c
end Go.Proofs.YtagkhoeidjlahaaDoor.G
namespace Go.Proofs.YtagkhoeidjlahaaDoor.G
open Go.RowKit Go.Proofs.YtagkhoeidjlahaaDoorW.PrintWords Go.Proofs.YtagkhoeidjlahaaDoorW.PrintLast Go.Proofs.YtagkhoeidjlahaaDoorW.PrintMore
attribute [local go_sem] max2_int min2_int max_two min_two max_three min_three max_four min_four
set_option linter.unusedVariables false
set_option linter.unusedSimpArgs false
section opn_
def Opn {H : Type} (enc : TypeId × Value → H) (P : Program) (W : World) (n : Nat) {α : Type} (t : TypeId) (d : Kd α) (ok : α → Prop) : Prop :=
  ∀ cs x, DataW.trod enc P W 0 (fun _ => true) true n t cs = some x → ∃ a, d.K W a cs ∧ ok a
def OkI (k : IntKind) (n : Int) : Prop := (Lit.int k n).wf = true
def OkS (s : ByteArray) : Prop := s.size ≤ 9223372036854775807
def OkL {α : Type} (ok : α → Prop) (l : List α) : Prop := l.length ≤ 9223372036854775807 ∧ ∀ x ∈ l, ok x
section opn
variable {H : Type} {enc : TypeId × Value → H} {P : Program} {W : World} {n : Nat} {α : Type} {t e : TypeId} {d : Kd α} {ok : α → Prop}
theorem opn_int {k : IntKind} (ht : P.underlying t = some (.int k)) : Opn enc P W n t (Kd.int k) (OkI k) := fun cs x h => by
  cases n with
  | zero => simp [DataW.trod] at h
  | succ n =>
    unfold DataW.trod at h
    rw [ht] at h
    split at h <;> simp_all
    exact ⟨_, rfl, h.1.2⟩
theorem opn_slice (e' : Nat) (ht : P.underlying t = some (.slice e)) (hc : P.cellsOf e = d.sz) (h : ∀ m, m < n → Opn enc P W m e d ok) : Opn enc P W n t (Kd.slice e' d) (OkL ok) := fun cs x hx => by
  rcases DataW.trod_slice ht hx with ⟨rfl, _⟩ | ⟨a, len, cap, elems, rest, m, rfl, rfl, _, _, hl, hm, hlen, hel, _⟩
  · exact ⟨[], ⟨none, 0, rfl, Nat.le_refl _, rfl, by simp, fun h => by simp at h⟩, by simp [OkL]⟩
  · have key : ∀ q, q ≤ len → ∃ xs : List α, xs.length = q ∧ (∀ x ∈ xs, ok x) ∧ ∀ j p, xs[j]? = some p → ∃ c, c.length = d.sz ∧ d.K W p c ∧ ∀ i u, c[i]? = some u → W.cell? (a.add (j * d.sz + i)) = some u := by
      intro q
      induction q with
      | zero => intro _; exact ⟨[], rfl, by simp, fun j p h => by simp at h⟩
      | succ q ih =>
        intro hq
        obtain ⟨xs, h1, h2, h3⟩ := ih (by omega)
        have hb := hel q (by omega)
        rw [List.getElem?_eq_getElem (by omega)] at hb
        obtain ⟨cs', hcs, htr⟩ := Option.bind_eq_some_iff.1 hb
        obtain ⟨_, hcl, hcell⟩ := World.cells?_some hcs
        obtain ⟨p, hK, hok⟩ := h m (by omega) _ _ htr
        refine ⟨xs ++ [p], by simp [h1], ?_, ?_⟩
        · intro x hx
          rcases List.mem_append.1 hx with hx | hx
          · exact h2 x hx
          · rw [List.mem_singleton.1 hx]; exact hok
        · intro j p' hj
          rcases Nat.lt_or_ge j q with hjq | hjq
          · rw [List.getElem?_append_left (by omega)] at hj
            exact h3 j p' hj
          · rw [List.getElem?_append_right (by omega), h1] at hj
            obtain rfl : j = q := by
              rcases Nat.eq_or_lt_of_le hjq with h | h
              · exact h.symm
              · rw [List.getElem?_eq_none (by simp; omega)] at hj; simp at hj
            simp at hj
            subst hj
            refine ⟨cs', by rw [hcl, hc], hK, fun i u hi => ?_⟩
            have hlt := (List.getElem?_eq_some_iff.1 hi).1
            have := hcell i (by omega)
            rw [hi, hc, add_add] at this
            exact this
    obtain ⟨xs, h1, h2, h3⟩ := key len (Nat.le_refl _)
    have hmx : maxLen = 9223372036854775807 := rfl
    refine ⟨xs, ⟨some a, cap, by rw [h1], by omega, rfl, by omega, fun _ => ⟨a, rfl, h3⟩⟩, by omega, h2⟩
end opn
inductive OkNode : S36 → Prop
  | mk (x : S36) (h0 : OkI .i64 x.f0) (h1 : OkS x.f1) (h2 : OkI .i64 x.f2) (hl : x.f3.length ≤ 9223372036854775807) (h3 : ∀ y ∈ x.f3, OkNode y) : OkNode x
section args
variable {H : Type} {enc : TypeId × Value → H} {W : World} {base : Nat} {v : Value} {d : DataW H} {ps : List MemPlace}
theorem agg_arg {P : Program} {r : Reach} {t : TypeId} {fs : Array Field} (hu : P.underlying t = some (.struct fs)) (h : Value.okWide P W r base t v) : ∃ cs, v = .agg cs := by
  unfold Value.okWide at h
  rw [hu] at h
  obtain ⟨cs, e, _⟩ := h
  exact ⟨cs, e⟩
set_option maxRecDepth 100000 in
theorem rows_arg {α : Type} {t : TypeId} {kd : Kd α} {ok : α → Prop} {e' : Nat} {e : TypeId} (hu : Tryd.prog.underlying t = some (.slice e)) (ho : ∀ n, Opn enc Tryd.prog W n t (Kd.slice e' kd) (OkL ok)) (hv : Value.okWide Tryd.prog W .any base t v) (h : DataW.Trod enc Tryd.prog W 0 (fun _ => true) true t v d ps) :
    ∃ (l : List α) (A : Option Addr) (c : Nat), v = .slice A l.length c ∧ l.length ≤ c ∧ Kd.C kd W A l.length l ∧ OkL ok l := by
  obtain ⟨a, n, c, rfl⟩ := Go.WideShapes.okWide_slice hu hv
  obtain ⟨m, h⟩ := h
  obtain ⟨l, ⟨A, c', e, hl, hC⟩, hok⟩ := ho m _ _ h
  have e' : [Value.slice a n c] = [Value.slice A l.length c'] := e
  simp only [List.cons.injEq, and_true] at e'
  exact ⟨l, A, c', e', hl, hC, hok⟩
set_option maxRecDepth 100000 in
theorem ints_arg (hv : Value.okWide Tryd.prog W .any base 26 v) (h : DataW.Trod enc Tryd.prog W 0 (fun _ => true) true 26 v d ps) :
    ∃ (l : List Int) (A : Option Addr) (c : Nat), v = .slice A l.length c ∧ l.length ≤ c ∧ Kd.C (Kd.int .i64) W A l.length l ∧ OkL (OkI .i64) l :=
  rows_arg (e' := 3) Tryd.underlying26 (fun n => opn_slice 3 Tryd.underlying26 (by kernel_rfl) (fun m _ => opn_int (by kernel_rfl))) hv h
end args
end opn_
end Go.Proofs.YtagkhoeidjlahaaDoor.G
namespace Go.Proofs.YtagkhoeidjlahaaDoor.G
open Go.RowKit Go.Proofs.YtagkhoeidjlahaaDoorW.PrintWords Go.Proofs.YtagkhoeidjlahaaDoorW.PrintLast Go.Proofs.YtagkhoeidjlahaaDoorW.PrintMore
attribute [local go_sem] max2_int min2_int max_two min_two max_three min_three max_four min_four
set_option linter.unusedVariables false
set_option linter.unusedSimpArgs false
section opr_
section rng
variable {H : Type} {enc : TypeId × Value → H} {W : World} {base : Nat} {v : Value} {d : DataW H} {ps : List MemPlace}
theorem list3 {α : Type} {cs : List α} (h : cs.length = 3) : ∃ a b c, cs = [a, b, c] := by
  match cs, h with
  | [a, b, c], _ => exact ⟨a, b, c, rfl⟩
def OkRange (x : List Int × Int × Int) : Prop := OkL (OkI .i64) x.1 ∧ OkI .i64 x.2.1 ∧ OkI .i64 x.2.2
set_option maxRecDepth 100000 in
theorem range_arg (hv : Value.okWide Tryd.prog W .any base 54 v) (h : DataW.Trod enc Tryd.prog W 0 (fun _ => true) true 54 v d ps) :
    ∃ (x : List Int × Int × Int) (A : Option Addr) (c : Nat), v = .agg #[.slice A x.1.length c, .int .i64 x.2.1, .int .i64 x.2.2] ∧ x.1.length ≤ c ∧ Kd.C (Kd.int .i64) W A x.1.length x.1 ∧ OkRange x := by
  have hu := Tryd.underlying54
  obtain ⟨cs, rfl⟩ := agg_arg hu hv
  obtain ⟨n, h⟩ := h
  obtain ⟨xs, m, rfl, _, hl, hxs, hf⟩ := DataW.trod_struct hu h
  have e0 := hf 0 _ rfl
  have e1 := hf 1 _ rfl
  have e2 := hf 2 _ rfl
  have hlx : xs.length = 3 := hxs
  rw [List.getElem?_eq_getElem (by omega)] at e0 e1 e2
  have c3 : Tryd.prog.cellsOf 3 = 1 := by kernel_rfl
  have c26_ : Tryd.prog.cellsOf 26 = 1 := by kernel_rfl
  replace e0 : DataW.trod enc Tryd.prog W 0 (fun _ => true) true m 26 (((Value.agg cs).cells.toList.drop 0).take (Tryd.prog.cellsOf 26)) = some xs[0] := e0
  rw [c26_] at e0
  replace e1 : DataW.trod enc Tryd.prog W 0 (fun _ => true) true m 3 (((Value.agg cs).cells.toList.drop 1).take (Tryd.prog.cellsOf 3)) = some xs[1] := e1
  rw [c3] at e1
  replace e2 : DataW.trod enc Tryd.prog W 0 (fun _ => true) true m 3 (((Value.agg cs).cells.toList.drop 2).take (Tryd.prog.cellsOf 3)) = some xs[2] := e2
  rw [c3] at e2
  obtain ⟨a0, k0, o0⟩ := opn_slice 3 Tryd.underlying26 (show Tryd.prog.cellsOf 3 = (Kd.int .i64).sz from by kernel_rfl) (fun q _ => opn_int (show Tryd.prog.underlying 3 = some (.int .i64) from by kernel_rfl)) _ _ e0
  obtain ⟨a1, k1, o1⟩ := opn_int (show Tryd.prog.underlying 3 = some (.int .i64) from by kernel_rfl) _ _ e1
  obtain ⟨a2, k2, o2⟩ := opn_int (show Tryd.prog.underlying 3 = some (.int .i64) from by kernel_rfl) _ _ e2
  have hl3 : (Value.agg cs).cells.toList.length = 3 := hl.trans (by kernel_rfl)
  obtain ⟨u0, u1, u2, hcs⟩ := list3 hl3
  rw [hcs] at k0 k1 k2
  obtain ⟨A, c, k0', hle, hC⟩ := k0
  have k0'' : [u0] = [Value.slice A a0.length c] := k0'
  have k1' : [u1] = [Value.int .i64 a1] := k1
  have k2' : [u2] = [Value.int .i64 a2] := k2
  simp only [List.cons.injEq, and_true] at k0'' k1' k2'
  subst k0'' k1' k2'
  refine ⟨(a0, a1, a2), A, c, congrArg Value.agg (Array.toList_inj.1 ?_), hle, hC, o0, o1, o2⟩
  have : cs.toList = _ := hcs
  rw [this]
end rng
end opr_
end Go.Proofs.YtagkhoeidjlahaaDoor.G
namespace Go.Proofs.YtagkhoeidjlahaaDoor.G
open Go.RowKit Go.Proofs.YtagkhoeidjlahaaDoorW.PrintWords Go.Proofs.YtagkhoeidjlahaaDoorW.PrintLast Go.Proofs.YtagkhoeidjlahaaDoorW.PrintMore
attribute [local go_sem] max2_int min2_int max_two min_two max_three min_three max_four min_four
set_option linter.unusedVariables false
set_option linter.unusedSimpArgs false
def slices_Index_string_string.l0 : Nat → List ByteArray → ByteArray → Int → Int → Option (Int)
  | 0, _, _, _, _ => none
  | k + 1, x0, x1, x7, x8 => if x8 < x7 then (if 0 ≤ x8 then (if x8 < (x0.length : Int) then (if x1.toList = (rdOf ByteArray.empty x0 x8).toList then (some x8) else (slices_Index_string_string.l0 k x0 x1 x7 (wrap64 (x8 + 1)))) else (none)) else (none)) else (some (-1))
def slices_Index_string_string.f (k : Nat) (l0 : List ByteArray) (a1 : ByteArray) : Option (Int) := slices_Index_string_string.l0 k l0 a1 (l0.length : Int) 0
set_option maxHeartbeats 8000000 in
set_option maxRecDepth 100000 in
theorem slices_Index_string_string.calls (k : Nat) (A0 : Option Addr) (c0 : Nat) (l0 : List ByteArray) (a1 : ByteArray) (r : Int) (w : World) (hr0 : Kd.C Kd.string w A0 l0.length l0) (hc0 : l0.length ≤ c0) (h : slices_Index_string_string.f k l0 a1 = some r) :
    Calls Tryd.prog 143 #[.slice A0 l0.length c0, .string a1] w fun e w' => e = .returned (.int .i64 r) ∧ Drawn0 w w' := by
  have HR0 := Aside0.mk hr0
  have HC0 := Aside0.mk hc0
  clear hr0 hc0
  have H : (slices_Index_string_string.l0 k l0 a1 (l0.length : Int) 0) = some r := h
  clear h
  have H' := Aside0.mk H
  clear H
  go_enter Tryd.func143, Tryd.ntmps143
  go_wp2
  go_loopg [8] k (fun kq v8 w' => ∃ (x8_1 : Int), v8 = .int .i64 x8_1 ∧ Aside0 (slices_Index_string_string.l0 kq l0 a1 (l0.length : Int) x8_1 = some r) ∧ Aside0 (kq ≤ k) ∧ Drawn0 w w')
  case atStart => exact ⟨(0), (by first | rfl | (simp; done) | (simp [*]; done)), H', ⟨Nat.le_refl _⟩, by repeat (first | exact Drawn0.refl _ | apply Drawn0.step)⟩
  case round =>
    clear H'
    try clear c1
    try clear p2
    obtain ⟨x8_1, rfl, HA, HK1, ⟨m1, rfl⟩⟩ := hrel
    cases gk with
    | zero => exact absurd HA.out (by simp [slices_Index_string_string.l0])
    | succ k1 =>
      have H := HA.out
      clear HA
      simp only [slices_Index_string_string.l0] at H
      by_cases c3 : x8_1 < (l0.length : Int)
      · rw [if_pos c3] at H
        have c3b0 : decide (x8_1 < (l0.length : Int)) = true := decide_eq_true c3
        clear c3
        by_cases c4 : 0 ≤ x8_1
        · rw [if_pos c4] at H
          have c4b0 : decide (0 ≤ x8_1) = true := decide_eq_true c4
          clear c4
          by_cases c5 : x8_1 < (l0.length : Int)
          · rw [if_pos c5] at H
            have c5b0 : decide (x8_1 < (l0.length : Int)) = true := decide_eq_true c5
            clear c5
            by_cases c6 : a1.toList = (rdOf ByteArray.empty l0 x8_1).toList
            · rw [if_pos c6] at H
              have c6b0 : (a1.toList == (rdOf ByteArray.empty l0 x8_1).toList) = true := beq_iff_eq.mpr c6
              have c6b1 : (a1.toList != (rdOf ByteArray.empty l0 x8_1).toList) = false := bne_eq_false_iff_eq.mpr c6
              clear c6
              obtain rfl := Option.some.inj H
              have p101 : 0 ≤ (x8_1 : Int) := of_decide_eq_true (by first | (with_reducible assumption) | assumption)
              have q101 : x8_1 < (l0.length : Int) := of_decide_eq_true (by first | (with_reducible assumption) | assumption)
              obtain ⟨ad101, e101, hx101_0⟩ := Kd.at_string HR0.out x8_1 p101 q101
              cases e101
              replace p101 := eq_true p101
              replace q101 := eq_true q101
              go_wp2
              go_ret
              exact ⟨by first | rfl | (simp; done) | (simp [*]; done), by repeat (first | exact Drawn0.refl _ | apply Drawn0.step)⟩
            · rw [if_neg c6] at H
              have c6b0 : (a1.toList == (rdOf ByteArray.empty l0 x8_1).toList) = false := beq_eq_false_iff_ne.mpr c6
              have c6b1 : (a1.toList != (rdOf ByteArray.empty l0 x8_1).toList) = true := bne_iff_ne.mpr c6
              have H' := Aside0.mk H
              clear H
              have p101 : 0 ≤ (x8_1 : Int) := of_decide_eq_true (by first | (with_reducible assumption) | assumption)
              have q101 : x8_1 < (l0.length : Int) := of_decide_eq_true (by first | (with_reducible assumption) | assumption)
              obtain ⟨ad101, e101, hx101_0⟩ := Kd.at_string HR0.out x8_1 p101 q101
              cases e101
              replace p101 := eq_true p101
              replace q101 := eq_true q101
              go_wp2
              go_roundg k1
              case measure => have := HK1.out; omega
              case rel => exact ⟨(wrap64 (x8_1 + 1)), (by first | rfl | (simp; done) | (simp [*]; done)), H', ⟨by have := HK1.out; omega⟩, by repeat (first | exact Drawn0.refl _ | apply Drawn0.step)⟩
          · rw [if_neg c5] at H
            exact absurd H (by simp)
        · rw [if_neg c4] at H
          exact absurd H (by simp)
      · rw [if_neg c3] at H
        have c3b0 : decide (x8_1 < (l0.length : Int)) = false := decide_eq_false c3
        clear c3
        obtain rfl := Option.some.inj H
        go_wp2
        go_ret
        exact ⟨by first | rfl | (simp; done) | (simp [*]; done), by repeat (first | exact Drawn0.refl _ | apply Drawn0.step)⟩
end Go.Proofs.YtagkhoeidjlahaaDoor.G
namespace Go.Proofs.YtagkhoeidjlahaaDoor.G
open Go.RowKit Go.Proofs.YtagkhoeidjlahaaDoorW.PrintWords Go.Proofs.YtagkhoeidjlahaaDoorW.PrintLast Go.Proofs.YtagkhoeidjlahaaDoorW.PrintMore
attribute [local go_sem] max2_int min2_int max_two min_two max_three min_three max_four min_four
set_option linter.unusedVariables false
set_option linter.unusedSimpArgs false
def slices_Contains_string_string.f (k : Nat) (l0 : List ByteArray) (a1 : ByteArray) : Option (Bool) := (slices_Index_string_string.f k l0 a1).bind fun t102 => (some (decide (t102 ≥ 0)))
set_option maxHeartbeats 8000000 in
set_option maxRecDepth 100000 in
theorem slices_Contains_string_string.calls (k : Nat) (A0 : Option Addr) (c0 : Nat) (l0 : List ByteArray) (a1 : ByteArray) (r : Bool) (w : World) (hr0 : Kd.C Kd.string w A0 l0.length l0) (hc0 : l0.length ≤ c0) (h : slices_Contains_string_string.f k l0 a1 = some r) :
    Calls Tryd.prog 132 #[.slice A0 l0.length c0, .string a1] w fun e w' => e = .returned (.bool r) ∧ Drawn0 w w' := by
  have HR0 := Aside0.mk hr0
  have HC0 := Aside0.mk hc0
  clear hr0 hc0
  have H : ((slices_Index_string_string.f k l0 a1).bind fun t102 => (some (decide (t102 ≥ 0)))) = some r := h
  clear h
  replace H := Option.bind_eq_some_iff.mp H
  obtain ⟨t102, A30, H⟩ := H
  replace H : (some (decide (t102 ≥ 0))) = some r := H
  have A3 := Aside0.mk A30
  clear A30
  obtain rfl := Option.some.inj H
  go_enter Tryd.func132, Tryd.ntmps132
  go_wp2_with (first | ((with_reducible refine gate_callee (f := 143) rfl ?_); refine goesL_ (some 7) rfl rfl Tryd.func143 (by kernel_rfl) rfl #[.slice A0 l0.length c0, .string a1] rfl (by (try simp only [List.map_toArray, List.map_cons, List.map_nil]); first | done | rfl | (simp only [List.length_drop, List.length_take]; rfl)) ?_; (with_reducible refine (slices_Index_string_string.calls k _ _ l0 a1 t102 _ ?side1 ?side2 A3.out).mono ?_); (case side1 => repeat (first | exact HR0.out | (with_reducible refine Kd.C_alloc ?_ _) | (with_reducible refine Kd.C_drewN ?_ _) | (with_reducible refine Kd.C_drew ?_))); (case side2 => exact HC0.out); rintro e w' ⟨rfl, ⟨nd, rfl⟩⟩; refine ⟨_, rfl, ?_⟩))
  go_ret
  exact ⟨by first | rfl | (simp; done) | (simp [*]; done), by repeat (first | exact Drawn0.refl _ | apply Drawn0.step)⟩
end Go.Proofs.YtagkhoeidjlahaaDoor.G
namespace Go.Proofs.YtagkhoeidjlahaaDoor.G
open Go.RowKit Go.Proofs.YtagkhoeidjlahaaDoorW.PrintWords Go.Proofs.YtagkhoeidjlahaaDoorW.PrintLast Go.Proofs.YtagkhoeidjlahaaDoorW.PrintMore
attribute [local go_sem] max2_int min2_int max_two min_two max_three min_three max_four min_four
set_option linter.unusedVariables false
set_option linter.unusedSimpArgs false
def node_accent.f (k : Nat) (a0 : ByteArray) : Option (Bool) := (slices_Contains_string_string.f k (([(⟨#[104, 97, 116]⟩ : ByteArray), (⟨#[98, 97, 114]⟩ : ByteArray), (⟨#[118, 101, 99]⟩ : ByteArray), (⟨#[100, 111, 116]⟩ : ByteArray), (⟨#[116, 105, 108, 100, 101]⟩ : ByteArray), (⟨#[99, 104, 101, 99, 107]⟩ : ByteArray)] : List ByteArray)) a0).bind fun t106 => (some t106)
set_option maxHeartbeats 8000000 in
set_option maxRecDepth 100000 in
theorem node_accent.calls (k : Nat) (a0 : ByteArray) (r : Bool) (w : World) (h : node_accent.f k a0 = some r) :
    Calls Tryd.prog 117 #[.string a0] w fun e w' => e = .returned (.bool r) ∧ Below w.heap.size w w' := by
  have HB := Aside0.mk (Below.refl w.heap.size w)
  have H : ((slices_Contains_string_string.f k (([(⟨#[104, 97, 116]⟩ : ByteArray), (⟨#[98, 97, 114]⟩ : ByteArray), (⟨#[118, 101, 99]⟩ : ByteArray), (⟨#[100, 111, 116]⟩ : ByteArray), (⟨#[116, 105, 108, 100, 101]⟩ : ByteArray), (⟨#[99, 104, 101, 99, 107]⟩ : ByteArray)] : List ByteArray)) a0).bind fun t106 => (some t106)) = some r := h
  clear h
  obtain ⟨y103, hy103⟩ : ∃ y_ : List ByteArray, y_ = (([(⟨#[104, 97, 116]⟩ : ByteArray), (⟨#[98, 97, 114]⟩ : ByteArray), (⟨#[118, 101, 99]⟩ : ByteArray), (⟨#[100, 111, 116]⟩ : ByteArray), (⟨#[116, 105, 108, 100, 101]⟩ : ByteArray), (⟨#[99, 104, 101, 99, 107]⟩ : ByteArray)] : List ByteArray)) := ⟨_, rfl⟩
  replace H : ((slices_Contains_string_string.f k y103 a0).bind fun t106 => (some t106)) = some r := by first | (rw [hy103]; with_reducible exact H) | (have H2_ := (Option.bind_some _ _).symm.trans H; rw [hy103]; with_reducible exact H2_) | (have H2_ := (Option.bind_some _ _).symm.trans H; with_reducible exact H2_) | with_reducible exact H | (rw [hy103]; exact H) | exact H
  have Ny103 := Aside0.mk hy103
  clear hy103
  replace H := Option.bind_eq_some_iff.mp H
  obtain ⟨t106, A20, H⟩ := H
  replace H : (some t106) = some r := H
  have A2 := Aside0.mk A20
  clear A20
  obtain rfl := Option.some.inj H
  go_enter Tryd.func117, Tryd.ntmps117
  go_wp2_with (first | ((with_reducible refine gate_dst (N := 3) rfl ?_); refine Kd.R_lit Kd.string _ 9 ?hg (N := 3) ?hd (xs := ([(⟨#[104, 97, 116]⟩ : ByteArray), (⟨#[98, 97, 114]⟩ : ByteArray), (⟨#[118, 101, 99]⟩ : ByteArray), (⟨#[100, 111, 116]⟩ : ByteArray), (⟨#[116, 105, 108, 100, 101]⟩ : ByteArray), (⟨#[99, 104, 101, 99, 107]⟩ : ByteArray)] : List ByteArray)) (inner := [.string (⟨#[104, 97, 116]⟩ : ByteArray), .string (⟨#[98, 97, 114]⟩ : ByteArray), .string (⟨#[118, 101, 99]⟩ : ByteArray), .string (⟨#[100, 111, 116]⟩ : ByteArray), .string (⟨#[116, 105, 108, 100, 101]⟩ : ByteArray), .string (⟨#[99, 104, 101, 99, 107]⟩ : ByteArray)]) (ok := fun _ => True) (okp := fun _ => True) ?hr ?hp (fun _ hk => hk) trivial (Below.refl _ _) (Nat.le_refl _) (by simp) ?_; (case hd => rfl); (case hg => rfl); (case hr => first | (go_simp; done) | (go_simp; rfl)); (case hp => exact (Reps.one (show Kd.M Kd.string _ _ _ (⟨#[104, 97, 116]⟩ : ByteArray) [.string (⟨#[104, 97, 116]⟩ : ByteArray)] from rfl) (Reps.one (show Kd.M Kd.string _ _ _ (⟨#[98, 97, 114]⟩ : ByteArray) [.string (⟨#[98, 97, 114]⟩ : ByteArray)] from rfl) (Reps.one (show Kd.M Kd.string _ _ _ (⟨#[118, 101, 99]⟩ : ByteArray) [.string (⟨#[118, 101, 99]⟩ : ByteArray)] from rfl) (Reps.one (show Kd.M Kd.string _ _ _ (⟨#[100, 111, 116]⟩ : ByteArray) [.string (⟨#[100, 111, 116]⟩ : ByteArray)] from rfl) (Reps.one (show Kd.M Kd.string _ _ _ (⟨#[116, 105, 108, 100, 101]⟩ : ByteArray) [.string (⟨#[116, 105, 108, 100, 101]⟩ : ByteArray)] from rfl) (Reps.one (show Kd.M Kd.string _ _ _ (⟨#[99, 104, 101, 99, 107]⟩ : ByteArray) [.string (⟨#[99, 104, 101, 99, 107]⟩ : ByteArray)] from rfl) (Reps.none _ _)))))))); intro v104 w3 ho4 hb hg_ hnew_; clear hg_ hnew_; (first | rw [← Ny103.out] at ho4 | (simp only [Int.reduceToNat] at ho4; rw [← Ny103.out] at ho4)); have n0_ := Aside0.mk (Kd.R_lower ho4 (below_size (by repeat (first | (with_reducible first | exact HB.out | apply below_alloc | apply pw_below_drewN | apply below_drew1) | exact HB.out)))); have n1_ := Aside0.mk (below_step (by repeat (first | (with_reducible first | exact HB.out | apply below_alloc | apply pw_below_drewN | apply below_drew1) | exact HB.out)) hb); clear HB; have HO105 := n0_; have HB := n1_; clear n0_ n1_; clear hb ho4; obtain ⟨Ao5, co5, eo5⟩ := Kd.R_slice HO105.out; subst eo5) | ((with_reducible refine gate_callee (f := 132) rfl ?_); refine goesL_ (some 5) rfl rfl Tryd.func132 (by kernel_rfl) rfl #[.slice Ao5 y103.length co5, .string a0] rfl (by (try simp only [List.map_toArray, List.map_cons, List.map_nil]); first | done | rfl | (simp only [List.length_drop, List.length_take]; rfl)) ?_; (with_reducible refine (slices_Contains_string_string.calls k _ _ y103 a0 t106 _ ?side1 ?side2 A2.out).mono ?_); (case side1 => repeat (first | exact (Kd.R_reads' HO105.out).2.2 | (with_reducible refine Kd.C_alloc ?_ _) | (with_reducible refine Kd.C_drewN ?_ _) | (with_reducible refine Kd.C_drew ?_))); (case side2 => exact (Kd.R_reads' HO105.out).2.1); rintro e w' ⟨rfl, ⟨nd, rfl⟩⟩; refine ⟨_, rfl, ?_⟩))
  go_ret
  exact ⟨by first | rfl | (simp [errW_none, errW_some] <;> rfl) | (simp [*, errW_none, errW_some] <;> rfl), by repeat (first | (with_reducible first | exact HB.out | apply below_alloc | apply pw_below_drewN | apply below_drew1) | exact HB.out)⟩
end Go.Proofs.YtagkhoeidjlahaaDoor.G
namespace Go.Proofs.YtagkhoeidjlahaaDoor.G
open Go.RowKit Go.Proofs.YtagkhoeidjlahaaDoorW.PrintWords Go.Proofs.YtagkhoeidjlahaaDoorW.PrintLast Go.Proofs.YtagkhoeidjlahaaDoorW.PrintMore
attribute [local go_sem] max2_int min2_int max_two min_two max_three min_three max_four min_four
set_option linter.unusedVariables false
set_option linter.unusedSimpArgs false
def node_letter.f (a0 : Int) : Option (Bool) := if a0 ≥ 97 then (if a0 ≤ 122 then (some true) else (if a0 ≥ 65 then (some (decide (a0 ≤ 90))) else (some false))) else (if a0 ≥ 65 then (some (decide (a0 ≤ 90))) else (some false))
set_option maxHeartbeats 8000000 in
set_option maxRecDepth 100000 in
theorem node_letter.calls (a0 : Int) (r : Bool) (w : World) (h : node_letter.f a0 = some r) :
    Calls Tryd.prog 130 #[.int .u8 a0] w fun e w' => e = .returned (.bool r) ∧ Drawn0 w w' := by
  have H : (if a0 ≥ 97 then (if a0 ≤ 122 then (some true) else (if a0 ≥ 65 then (some (decide (a0 ≤ 90))) else (some false))) else (if a0 ≥ 65 then (some (decide (a0 ≤ 90))) else (some false))) = some r := h
  clear h
  by_cases c2 : a0 ≥ 97
  · rw [if_pos c2] at H
    have c2b0 : decide (97 ≤ a0) = true := decide_eq_true c2
    clear c2
    by_cases c3 : a0 ≤ 122
    · rw [if_pos c3] at H
      have c3b0 : decide (a0 ≤ 122) = true := decide_eq_true c3
      clear c3
      obtain rfl := Option.some.inj H
      go_enter Tryd.func130, Tryd.ntmps130
      go_wp2
      go_ret
      exact ⟨by first | rfl | (simp; done) | (simp [*]; done), by repeat (first | exact Drawn0.refl _ | apply Drawn0.step)⟩
    · rw [if_neg c3] at H
      have c3b0 : decide (a0 ≤ 122) = false := decide_eq_false c3
      clear c3
      by_cases c4 : a0 ≥ 65
      · rw [if_pos c4] at H
        have c4b0 : decide (65 ≤ a0) = true := decide_eq_true c4
        clear c4
        obtain rfl := Option.some.inj H
        go_enter Tryd.func130, Tryd.ntmps130
        go_wp2
        go_ret
        exact ⟨by first | rfl | (simp; done) | (simp [*]; done), by repeat (first | exact Drawn0.refl _ | apply Drawn0.step)⟩
      · rw [if_neg c4] at H
        have c4b0 : decide (65 ≤ a0) = false := decide_eq_false c4
        clear c4
        obtain rfl := Option.some.inj H
        go_enter Tryd.func130, Tryd.ntmps130
        go_wp2
        go_ret
        exact ⟨by first | rfl | (simp; done) | (simp [*]; done), by repeat (first | exact Drawn0.refl _ | apply Drawn0.step)⟩
  · rw [if_neg c2] at H
    have c2b0 : decide (97 ≤ a0) = false := decide_eq_false c2
    clear c2
    by_cases c5 : a0 ≥ 65
    · rw [if_pos c5] at H
      have c5b0 : decide (65 ≤ a0) = true := decide_eq_true c5
      clear c5
      obtain rfl := Option.some.inj H
      go_enter Tryd.func130, Tryd.ntmps130
      go_wp2
      go_ret
      exact ⟨by first | rfl | (simp; done) | (simp [*]; done), by repeat (first | exact Drawn0.refl _ | apply Drawn0.step)⟩
    · rw [if_neg c5] at H
      have c5b0 : decide (65 ≤ a0) = false := decide_eq_false c5
      clear c5
      obtain rfl := Option.some.inj H
      go_enter Tryd.func130, Tryd.ntmps130
      go_wp2
      go_ret
      exact ⟨by first | rfl | (simp; done) | (simp [*]; done), by repeat (first | exact Drawn0.refl _ | apply Drawn0.step)⟩
end Go.Proofs.YtagkhoeidjlahaaDoor.G
namespace Go.Proofs.YtagkhoeidjlahaaDoor.G
open Go.RowKit Go.Proofs.YtagkhoeidjlahaaDoorW.PrintWords Go.Proofs.YtagkhoeidjlahaaDoorW.PrintLast Go.Proofs.YtagkhoeidjlahaaDoorW.PrintMore
attribute [local go_sem] max2_int min2_int max_two min_two max_three min_three max_four min_four
set_option linter.unusedVariables false
set_option linter.unusedSimpArgs false
def stringslite_Index.f (a0 a1 : ByteArray) : Option Int := match a1.data.toList with
  | [c] => some (Lib.indexByte a0.data.toList c)
  | _ => none
theorem stringslite_Index.calls (a0 : ByteArray) (a1 : ByteArray) (r : Int) (w : World) (h : stringslite_Index.f a0 a1 = some r) :
    Calls Tryd.prog 146 #[.string a0, .string a1] w fun e w' => e = .returned (.int .i64 r) ∧ Drawn0 w w' := by
  unfold stringslite_Index.f at h
  rcases a1 with ⟨⟨l⟩⟩
  rcases l with _ | ⟨c, _ | ⟨d, l⟩⟩
  · simp at h
  · simp at h
    subst h
    exact (Any.stringslite_Index_one Tryd.lays219 a0 c w).mono fun e w' ⟨he, hw⟩ => ⟨he, hw ▸ Drawn0.refl w⟩
  · simp at h
end Go.Proofs.YtagkhoeidjlahaaDoor.G
namespace Go.Proofs.YtagkhoeidjlahaaDoor.G
open Go.RowKit Go.Proofs.YtagkhoeidjlahaaDoorW.PrintWords Go.Proofs.YtagkhoeidjlahaaDoorW.PrintLast Go.Proofs.YtagkhoeidjlahaaDoorW.PrintMore
attribute [local go_sem] max2_int min2_int max_two min_two max_three min_three max_four min_four
set_option linter.unusedVariables false
set_option linter.unusedSimpArgs false
def strings_Index.f (a0 : ByteArray) (a1 : ByteArray) : Option (Int) := (stringslite_Index.f a0 a1).bind fun t107 => (some t107)
set_option maxHeartbeats 8000000 in
set_option maxRecDepth 100000 in
theorem strings_Index.calls (a0 : ByteArray) (a1 : ByteArray) (r : Int) (w : World) (h : strings_Index.f a0 a1 = some r) :
    Calls Tryd.prog 142 #[.string a0, .string a1] w fun e w' => e = .returned (.int .i64 r) ∧ Drawn0 w w' := by
  have H : ((stringslite_Index.f a0 a1).bind fun t107 => (some t107)) = some r := h
  clear h
  replace H := Option.bind_eq_some_iff.mp H
  obtain ⟨t107, A30, H⟩ := H
  replace H : (some t107) = some r := H
  have A3 := Aside0.mk A30
  clear A30
  obtain rfl := Option.some.inj H
  go_enter Tryd.func142, Tryd.ntmps142
  go_wp2_with (first | ((with_reducible refine gate_callee (f := 146) rfl ?_); refine goesL_ (some 7) rfl rfl Tryd.func146 (by kernel_rfl) rfl #[.string a0, .string a1] rfl (by (try simp only [List.map_toArray, List.map_cons, List.map_nil]); first | done | rfl | (simp only [List.length_drop, List.length_take]; rfl)) ?_; (with_reducible refine (stringslite_Index.calls a0 a1 t107 _ A3.out).mono ?_); rintro e w' ⟨rfl, ⟨nd, rfl⟩⟩; refine ⟨_, rfl, ?_⟩))
  go_ret
  exact ⟨by first | rfl | (simp; done) | (simp [*]; done), by repeat (first | exact Drawn0.refl _ | apply Drawn0.step)⟩
end Go.Proofs.YtagkhoeidjlahaaDoor.G
namespace Go.Proofs.YtagkhoeidjlahaaDoor.G
open Go.RowKit Go.Proofs.YtagkhoeidjlahaaDoorW.PrintWords Go.Proofs.YtagkhoeidjlahaaDoorW.PrintLast Go.Proofs.YtagkhoeidjlahaaDoorW.PrintMore
attribute [local go_sem] max2_int min2_int max_two min_two max_three min_three max_four min_four
set_option linter.unusedVariables false
set_option linter.unusedSimpArgs false
def strings_Contains.f (a0 : ByteArray) (a1 : ByteArray) : Option (Bool) := (strings_Index.f a0 a1).bind fun t108 => (some (decide (t108 ≥ 0)))
set_option maxHeartbeats 8000000 in
set_option maxRecDepth 100000 in
theorem strings_Contains.calls (a0 : ByteArray) (a1 : ByteArray) (r : Bool) (w : World) (h : strings_Contains.f a0 a1 = some r) :
    Calls Tryd.prog 131 #[.string a0, .string a1] w fun e w' => e = .returned (.bool r) ∧ Drawn0 w w' := by
  have H : ((strings_Index.f a0 a1).bind fun t108 => (some (decide (t108 ≥ 0)))) = some r := h
  clear h
  replace H := Option.bind_eq_some_iff.mp H
  obtain ⟨t108, A30, H⟩ := H
  replace H : (some (decide (t108 ≥ 0))) = some r := H
  have A3 := Aside0.mk A30
  clear A30
  obtain rfl := Option.some.inj H
  go_enter Tryd.func131, Tryd.ntmps131
  go_wp2_with (first | ((with_reducible refine gate_callee (f := 142) rfl ?_); refine goesL_ (some 7) rfl rfl Tryd.func142 (by kernel_rfl) rfl #[.string a0, .string a1] rfl (by (try simp only [List.map_toArray, List.map_cons, List.map_nil]); first | done | rfl | (simp only [List.length_drop, List.length_take]; rfl)) ?_; (with_reducible refine (strings_Index.calls a0 a1 t108 _ A3.out).mono ?_); rintro e w' ⟨rfl, ⟨nd, rfl⟩⟩; refine ⟨_, rfl, ?_⟩))
  go_ret
  exact ⟨by first | rfl | (simp; done) | (simp [*]; done), by repeat (first | exact Drawn0.refl _ | apply Drawn0.step)⟩
end Go.Proofs.YtagkhoeidjlahaaDoor.G
namespace Go.Proofs.YtagkhoeidjlahaaDoor.G
open Go.RowKit Go.Proofs.YtagkhoeidjlahaaDoorW.PrintWords Go.Proofs.YtagkhoeidjlahaaDoorW.PrintLast Go.Proofs.YtagkhoeidjlahaaDoorW.PrintMore
attribute [local go_sem] max2_int min2_int max_two min_two max_three min_three max_four min_four
set_option linter.unusedVariables false
set_option linter.unusedSimpArgs false
mutual
def node_Symbol.j0 : Nat → ByteArray → Bool → Option (Bool)
  | 0, _, _ => none
  | k + 1, x0, x30 => if x30 = true then (some false) else (node_Symbol.l0 k x0 (x0.size : Int) 0)
def node_Symbol.l0 : Nat → ByteArray → Int → Int → Option (Bool)
  | 0, _, _, _ => none
  | k + 1, x0, x32, x33 => if x33 < x32 then (if 0 ≤ x33 then (if x33 < (x0.size : Int) then ((node_letter.f (bt x0 x33)).bind fun t116 => (if t116 = true then (node_Symbol.l0 k x0 x32 (wrap64 (x33 + 1))) else (some false))) else (none)) else (none)) else (some true)
end
def node_Symbol.f (k : Nat) (a0 : ByteArray) : Option (Bool) := if (a0.size : Int) = 1 then (if 0 < (a0.size : Int) then ((node_letter.f (bt a0 0)).bind fun t109 => (if t109 = true then (some true) else ((strings_Contains.f (⟨#[43, 45, 42, 47, 61, 60, 62, 44, 59, 58, 33, 124, 39, 63, 126, 64]⟩ : ByteArray) a0).bind fun t110 => (some t110)))) else (none)) else (if (a0.size : Int) < 2 then (node_Symbol.j0 k a0 true) else (if (a0.size : Int) > 16 then (node_Symbol.j0 k a0 true) else ((node_accent.f k a0).bind fun t111 => (if t111 = true then (node_Symbol.j0 k a0 true) else ((slices_Contains_string_string.f k (([(⟨#[102, 114, 97, 99]⟩ : ByteArray), (⟨#[114, 111, 111, 116]⟩ : ByteArray), (⟨#[109, 97, 116, 114, 105, 120]⟩ : ByteArray), (⟨#[102, 101, 110, 99, 101]⟩ : ByteArray)] : List ByteArray)) a0).bind fun t115 => (node_Symbol.j0 k a0 t115))))))
set_option maxHeartbeats 8000000 in
set_option maxRecDepth 100000 in
theorem node_Symbol.calls (k : Nat) (a0 : ByteArray) (r : Bool) (w : World) (h : node_Symbol.f k a0 = some r) :
    Calls Tryd.prog 114 #[.string a0] w fun e w' => e = .returned (.bool r) ∧ Below w.heap.size w w' := by
  have HB := Aside0.mk (Below.refl w.heap.size w)
  have H : (if (a0.size : Int) = 1 then (if 0 < (a0.size : Int) then ((node_letter.f (bt a0 0)).bind fun t109 => (if t109 = true then (some true) else ((strings_Contains.f (⟨#[43, 45, 42, 47, 61, 60, 62, 44, 59, 58, 33, 124, 39, 63, 126, 64]⟩ : ByteArray) a0).bind fun t110 => (some t110)))) else (none)) else (if (a0.size : Int) < 2 then (node_Symbol.j0 k a0 true) else (if (a0.size : Int) > 16 then (node_Symbol.j0 k a0 true) else ((node_accent.f k a0).bind fun t111 => (if t111 = true then (node_Symbol.j0 k a0 true) else ((slices_Contains_string_string.f k (([(⟨#[102, 114, 97, 99]⟩ : ByteArray), (⟨#[114, 111, 111, 116]⟩ : ByteArray), (⟨#[109, 97, 116, 114, 105, 120]⟩ : ByteArray), (⟨#[102, 101, 110, 99, 101]⟩ : ByteArray)] : List ByteArray)) a0).bind fun t115 => (node_Symbol.j0 k a0 t115))))))) = some r := h
  clear h
  by_cases c2 : (a0.size : Int) = 1
  · rw [if_pos c2] at H
    have c2b0 : ((a0.size : Int) == 1) = true := beq_iff_eq.mpr c2
    have c2b1 : ((a0.size : Int) != 1) = false := bne_eq_false_iff_eq.mpr c2
    clear c2
    by_cases c3 : 0 < (a0.size : Int)
    · rw [if_pos c3] at H
      have c3b0 : decide (0 < (a0.size : Int)) = true := decide_eq_true c3
      have c3b1 : decide (0 < a0.size) = true := decide_eq_true (by omega)
      clear c3
      replace H := Option.bind_eq_some_iff.mp H
      obtain ⟨t109, A50, H⟩ := H
      replace H : (if t109 = true then (some true) else ((strings_Contains.f (⟨#[43, 45, 42, 47, 61, 60, 62, 44, 59, 58, 33, 124, 39, 63, 126, 64]⟩ : ByteArray) a0).bind fun t110 => (some t110))) = some r := H
      have A5 := Aside0.mk A50
      clear A50
      by_cases c6 : t109 = true
      · subst c6
        have H1 : (some true) = some r := by rw [if_pos rfl] at H; exact H
        clear H
        have H := H1
        clear H1
        obtain rfl := Option.some.inj H
        have p4 : 0 ≤ (0 : Int) := (by omega)
        have q4 : 0 < a0.size := (by have : (0 : Int) < (a0.size : Int) := of_decide_eq_true (by first | (with_reducible assumption) | assumption); omega)
        have hx4 : ∀ h : 0 < a0.size, ((a0[0]'h).toNat : Int) = bt a0 0 := bt_at a0 0
        clear p4
        have qi4 : (0 < (a0.size : Int)) = True := eq_true (of_decide_eq_true (by first | (with_reducible assumption) | assumption))
        replace q4 := eq_true q4
        go_enter Tryd.func114, Tryd.ntmps114
        go_wp2_with (first | ((with_reducible refine gate_callee (f := 130) rfl ?_); refine goesL_ (some 9) rfl rfl Tryd.func130 (by kernel_rfl) rfl #[.int .u8 (bt a0 0)] rfl (by (try simp only [List.map_toArray, List.map_cons, List.map_nil]); first | done | rfl | (simp only [List.length_drop, List.length_take]; rfl)) ?_; (with_reducible refine (node_letter.calls (bt a0 0) true _ A5.out).mono ?_); rintro e w' ⟨rfl, ⟨nd, rfl⟩⟩; refine ⟨_, rfl, ?_⟩))
        go_ret
        exact ⟨by first | rfl | (simp [errW_none, errW_some] <;> rfl) | (simp [*, errW_none, errW_some] <;> rfl), by repeat (first | (with_reducible first | exact HB.out | apply below_alloc | apply pw_below_drewN | apply below_drew1) | exact HB.out)⟩
      · replace c6 := Bool.eq_false_iff.mpr c6
        subst c6
        have H1 : ((strings_Contains.f (⟨#[43, 45, 42, 47, 61, 60, 62, 44, 59, 58, 33, 124, 39, 63, 126, 64]⟩ : ByteArray) a0).bind fun t110 => (some t110)) = some r := by rw [if_neg (show ¬ (false = true) by decide)] at H; exact H
        clear H
        have H := H1
        clear H1
        replace H := Option.bind_eq_some_iff.mp H
        obtain ⟨t110, A70, H⟩ := H
        replace H : (some t110) = some r := H
        have A7 := Aside0.mk A70
        clear A70
        obtain rfl := Option.some.inj H
        have p4 : 0 ≤ (0 : Int) := (by omega)
        have q4 : 0 < a0.size := (by have : (0 : Int) < (a0.size : Int) := of_decide_eq_true (by first | (with_reducible assumption) | assumption); omega)
        have hx4 : ∀ h : 0 < a0.size, ((a0[0]'h).toNat : Int) = bt a0 0 := bt_at a0 0
        clear p4
        have qi4 : (0 < (a0.size : Int)) = True := eq_true (of_decide_eq_true (by first | (with_reducible assumption) | assumption))
        replace q4 := eq_true q4
        go_enter Tryd.func114, Tryd.ntmps114
        go_wp2_with (first | ((with_reducible refine gate_callee (f := 130) rfl ?_); refine goesL_ (some 9) rfl rfl Tryd.func130 (by kernel_rfl) rfl #[.int .u8 (bt a0 0)] rfl (by (try simp only [List.map_toArray, List.map_cons, List.map_nil]); first | done | rfl | (simp only [List.length_drop, List.length_take]; rfl)) ?_; (with_reducible refine (node_letter.calls (bt a0 0) false _ A5.out).mono ?_); rintro e w' ⟨rfl, ⟨nd, rfl⟩⟩; refine ⟨_, rfl, ?_⟩) | (go_at_call 131; (with_reducible refine (strings_Contains.calls (⟨#[43, 45, 42, 47, 61, 60, 62, 44, 59, 58, 33, 124, 39, 63, 126, 64]⟩ : ByteArray) a0 t110 _ A7.out).mono ?_); rintro e w' ⟨rfl, ⟨nd, rfl⟩⟩))
        go_ret
        exact ⟨by first | rfl | (simp [errW_none, errW_some] <;> rfl) | (simp [*, errW_none, errW_some] <;> rfl), by repeat (first | (with_reducible first | exact HB.out | apply below_alloc | apply pw_below_drewN | apply below_drew1) | exact HB.out)⟩
    · rw [if_neg c3] at H
      exact absurd H (by simp)
  · rw [if_neg c2] at H
    have c2b0 : ((a0.size : Int) == 1) = false := beq_eq_false_iff_ne.mpr c2
    have c2b1 : ((a0.size : Int) != 1) = true := bne_iff_ne.mpr c2
    have HC8 := Aside0.mk H
    clear H
    go_enter Tryd.func114, Tryd.ntmps114
    go_upto_region 3 with (fail)
    go_cut [30] (fun v30 wc => ∃ (kq : Nat) (x30_7 : Bool), v30 = .bool x30_7 ∧ Aside0 (node_Symbol.j0 kq a0 x30_7 = some r) ∧ Aside0 (kq ≤ k) ∧ Aside0 (Below w.heap.size w wc))
    case first =>
      have H := HC8.out
      clear HC8
      by_cases c9 : (a0.size : Int) < 2
      · rw [if_pos c9] at H
        have c9b0 : decide ((a0.size : Int) < 2) = true := decide_eq_true c9
        have c9b1 : decide (a0.size < 2) = true := decide_eq_true (by omega)
        clear c9
        (first | rw [c9b0] | (simp only [i64_w, i32_w]; rw [c9b0]) | skip)
        have H' := Aside0.mk H
        clear H
        go_wp2
        go_meet
        case rel => exact ⟨_, (true), (by first | rfl | (simp; done) | (simp [*]; done)), H', ⟨by first | omega | exact Nat.le_refl _⟩, ⟨by repeat (first | (with_reducible first | exact HB.out | apply below_alloc | apply pw_below_drewN | apply below_drew1) | exact HB.out)⟩⟩
      · rw [if_neg c9] at H
        have c9b0 : decide ((a0.size : Int) < 2) = false := decide_eq_false c9
        have c9b1 : decide (a0.size < 2) = false := decide_eq_false (by omega)
        clear c9
        (first | rw [c9b0] | (simp only [i64_w, i32_w]; rw [c9b0]) | skip)
        by_cases c10 : (a0.size : Int) > 16
        · rw [if_pos c10] at H
          have c10b0 : decide (16 < (a0.size : Int)) = true := decide_eq_true c10
          have c10b1 : decide (16 < a0.size) = true := decide_eq_true (by omega)
          clear c10
          have H' := Aside0.mk H
          clear H
          go_wp2
          go_meet
          case rel => exact ⟨_, (true), (by first | rfl | (simp; done) | (simp [*]; done)), H', ⟨by first | omega | exact Nat.le_refl _⟩, ⟨by repeat (first | (with_reducible first | exact HB.out | apply below_alloc | apply pw_below_drewN | apply below_drew1) | exact HB.out)⟩⟩
        · rw [if_neg c10] at H
          have c10b0 : decide (16 < (a0.size : Int)) = false := decide_eq_false c10
          have c10b1 : decide (16 < a0.size) = false := decide_eq_false (by omega)
          clear c10
          replace H := Option.bind_eq_some_iff.mp H
          obtain ⟨t111, A110, H⟩ := H
          replace H : (if t111 = true then (node_Symbol.j0 k a0 true) else ((slices_Contains_string_string.f k (([(⟨#[102, 114, 97, 99]⟩ : ByteArray), (⟨#[114, 111, 111, 116]⟩ : ByteArray), (⟨#[109, 97, 116, 114, 105, 120]⟩ : ByteArray), (⟨#[102, 101, 110, 99, 101]⟩ : ByteArray)] : List ByteArray)) a0).bind fun t115 => (node_Symbol.j0 k a0 t115))) = some r := H
          have A11 := Aside0.mk A110
          clear A110
          by_cases c12 : t111 = true
          · subst c12
            have H1 : (node_Symbol.j0 k a0 true) = some r := by rw [if_pos rfl] at H; exact H
            clear H
            have H := H1
            clear H1
            have H' := Aside0.mk H
            clear H
            go_wp2_with (first | (go_at_call 117; (with_reducible refine (node_accent.calls k a0 true _ A11.out).mono ?_); rintro e w13 ⟨rfl, hb⟩; have n0_ := Aside0.mk (below_step (by repeat (first | (with_reducible first | exact HB.out | apply below_alloc | apply pw_below_drewN | apply below_drew1) | exact HB.out)) hb); clear HB; have HB := n0_; clear n0_; (try clear hb); (try clear hb2); (try clear hk); (try clear hi)))
            go_meet
            case rel => exact ⟨_, (true), (by first | rfl | (simp; done) | (simp [*]; done)), H', ⟨by first | omega | exact Nat.le_refl _⟩, ⟨by repeat (first | (with_reducible first | exact HB.out | apply below_alloc | apply pw_below_drewN | apply below_drew1) | exact HB.out)⟩⟩
          · replace c12 := Bool.eq_false_iff.mpr c12
            subst c12
            have H1 : ((slices_Contains_string_string.f k (([(⟨#[102, 114, 97, 99]⟩ : ByteArray), (⟨#[114, 111, 111, 116]⟩ : ByteArray), (⟨#[109, 97, 116, 114, 105, 120]⟩ : ByteArray), (⟨#[102, 101, 110, 99, 101]⟩ : ByteArray)] : List ByteArray)) a0).bind fun t115 => (node_Symbol.j0 k a0 t115)) = some r := by rw [if_neg (show ¬ (false = true) by decide)] at H; exact H
            clear H
            have H := H1
            clear H1
            obtain ⟨y112, hy112⟩ : ∃ y_ : List ByteArray, y_ = (([(⟨#[102, 114, 97, 99]⟩ : ByteArray), (⟨#[114, 111, 111, 116]⟩ : ByteArray), (⟨#[109, 97, 116, 114, 105, 120]⟩ : ByteArray), (⟨#[102, 101, 110, 99, 101]⟩ : ByteArray)] : List ByteArray)) := ⟨_, rfl⟩
            replace H : ((slices_Contains_string_string.f k y112 a0).bind fun t115 => (node_Symbol.j0 k a0 t115)) = some r := by first | (rw [hy112]; with_reducible exact H) | (have H2_ := (Option.bind_some _ _).symm.trans H; rw [hy112]; with_reducible exact H2_) | (have H2_ := (Option.bind_some _ _).symm.trans H; with_reducible exact H2_) | with_reducible exact H | (rw [hy112]; exact H) | exact H
            have Ny112 := Aside0.mk hy112
            clear hy112
            replace H := Option.bind_eq_some_iff.mp H
            obtain ⟨t115, A140, H⟩ := H
            replace H : (node_Symbol.j0 k a0 t115) = some r := H
            have A14 := Aside0.mk A140
            clear A140
            have H' := Aside0.mk H
            clear H
            go_wp2_with (first | (go_at_call 117; (with_reducible refine (node_accent.calls k a0 false _ A11.out).mono ?_); rintro e w15 ⟨rfl, hb⟩; have n0_ := Aside0.mk (below_step (by repeat (first | (with_reducible first | exact HB.out | apply below_alloc | apply pw_below_drewN | apply below_drew1) | exact HB.out)) hb); clear HB; have HB := n0_; clear n0_; (try clear hb); (try clear hb2); (try clear hk); (try clear hi)) | ((with_reducible refine gate_dst (N := 27) rfl ?_); (try (refine gate_guard (by rfl) ?_; dsimp only)); refine Kd.R_lit Kd.string _ 9 ?hg (N := 27) ?hd (xs := ([(⟨#[102, 114, 97, 99]⟩ : ByteArray), (⟨#[114, 111, 111, 116]⟩ : ByteArray), (⟨#[109, 97, 116, 114, 105, 120]⟩ : ByteArray), (⟨#[102, 101, 110, 99, 101]⟩ : ByteArray)] : List ByteArray)) (inner := [.string (⟨#[102, 114, 97, 99]⟩ : ByteArray), .string (⟨#[114, 111, 111, 116]⟩ : ByteArray), .string (⟨#[109, 97, 116, 114, 105, 120]⟩ : ByteArray), .string (⟨#[102, 101, 110, 99, 101]⟩ : ByteArray)]) (ok := fun _ => True) (okp := fun _ => True) ?hr ?hp (fun _ hk => hk) trivial (Below.refl _ _) (Nat.le_refl _) (by simp) ?_; (case hd => rfl); (case hg => rfl); (case hr => first | (go_simp; done) | (go_simp; rfl)); (case hp => exact (Reps.one (show Kd.M Kd.string _ _ _ (⟨#[102, 114, 97, 99]⟩ : ByteArray) [.string (⟨#[102, 114, 97, 99]⟩ : ByteArray)] from rfl) (Reps.one (show Kd.M Kd.string _ _ _ (⟨#[114, 111, 111, 116]⟩ : ByteArray) [.string (⟨#[114, 111, 111, 116]⟩ : ByteArray)] from rfl) (Reps.one (show Kd.M Kd.string _ _ _ (⟨#[109, 97, 116, 114, 105, 120]⟩ : ByteArray) [.string (⟨#[109, 97, 116, 114, 105, 120]⟩ : ByteArray)] from rfl) (Reps.one (show Kd.M Kd.string _ _ _ (⟨#[102, 101, 110, 99, 101]⟩ : ByteArray) [.string (⟨#[102, 101, 110, 99, 101]⟩ : ByteArray)] from rfl) (Reps.none _ _)))))); intro v113 w16 ho17 hb hg_ hnew_; clear hg_ hnew_; (first | rw [← Ny112.out] at ho17 | (simp only [Int.reduceToNat] at ho17; rw [← Ny112.out] at ho17)); have n0_ := Aside0.mk (Kd.R_lower ho17 (below_size (by repeat (first | (with_reducible first | exact HB.out | apply below_alloc | apply pw_below_drewN | apply below_drew1) | exact HB.out)))); have n1_ := Aside0.mk (below_step (by repeat (first | (with_reducible first | exact HB.out | apply below_alloc | apply pw_below_drewN | apply below_drew1) | exact HB.out)) hb); clear HB; have HO114 := n0_; have HB := n1_; clear n0_ n1_; clear hb ho17; obtain ⟨Ao18, co18, eo18⟩ := Kd.R_slice HO114.out; subst eo18) | (go_at_call 132; (with_reducible refine (slices_Contains_string_string.calls k _ _ y112 a0 t115 _ ?side1 ?side2 A14.out).mono ?_); (case side1 => repeat (first | exact (Kd.R_reads' HO114.out).2.2 | (with_reducible refine Kd.C_alloc ?_ _) | (with_reducible refine Kd.C_drewN ?_ _) | (with_reducible refine Kd.C_drew ?_))); (case side2 => exact (Kd.R_reads' HO114.out).2.1); rintro e w' ⟨rfl, ⟨nd, rfl⟩⟩))
            go_meet
            case rel => exact ⟨_, (t115), (by first | rfl | (simp; done) | (simp [*]; done)), H', ⟨by first | omega | exact Nat.le_refl _⟩, ⟨by repeat (first | (with_reducible first | exact HB.out | apply below_alloc | apply pw_below_drewN | apply below_drew1) | exact HB.out)⟩⟩
    case rest =>
      clear HC8
      try clear c1
      try clear c2
      try clear c2b0
      try clear c2b1
      try clear p2
      try clear c3
      try clear c3b0
      try clear c3b1
      try clear p4
      try clear q4
      try clear hx4
      try clear qi4
      try clear c6
      try clear c9
      try clear c9b0
      try clear c9b1
      try clear c10
      try clear c10b0
      try clear c10b1
      try clear c11
      try clear c12
      try clear c13
      try clear p4
      try clear q4
      obtain ⟨kq, x30_7, rfl, HA, HJ7, HB⟩ := hcut
      cases kq with
      | zero => exact absurd HA.out (by simp [node_Symbol.j0])
      | succ kj7 =>
        have H := HA.out
        clear HA
        simp only [node_Symbol.j0] at H
        by_cases c19 : x30_7 = true
        · subst c19
          have H1 : (some false) = some r := by rw [if_pos rfl] at H; exact H
          clear H
          have H := H1
          clear H1
          obtain rfl := Option.some.inj H
          go_wp2
          go_ret
          exact ⟨by first | rfl | (simp [errW_none, errW_some] <;> rfl) | (simp [*, errW_none, errW_some] <;> rfl), by repeat (first | (with_reducible first | exact HB.out | apply below_alloc | apply pw_below_drewN | apply below_drew1) | exact HB.out)⟩
        · replace c19 := Bool.eq_false_iff.mpr c19
          subst c19
          have H1 : (node_Symbol.l0 kj7 a0 (a0.size : Int) 0) = some r := by rw [if_neg (show ¬ (false = true) by decide)] at H; exact H
          clear H
          have H := H1
          clear H1
          have H' := Aside0.mk H
          clear H
          go_wp2
          go_loopg [33] kj7 (fun kq v33 w' => ∃ (x33_2 : Int), v33 = .int .i64 x33_2 ∧ Aside0 (node_Symbol.l0 kq a0 (a0.size : Int) x33_2 = some r) ∧ Aside0 (kq ≤ kj7) ∧ Aside0 (Below w.heap.size w w'))
          case atStart => exact ⟨(0), (by first | rfl | (simp; done) | (simp [*]; done)), H', ⟨Nat.le_refl _⟩, ⟨by repeat (first | (with_reducible first | exact HB.out | apply below_alloc | apply pw_below_drewN | apply below_drew1) | exact HB.out)⟩⟩
          case round =>
            clear H'
            try clear c1
            try clear c2
            try clear c2b0
            try clear c2b1
            try clear p2
            try clear c3
            try clear c3b0
            try clear c3b1
            try clear p4
            try clear q4
            try clear hx4
            try clear qi4
            try clear c6
            try clear c9
            try clear c9b0
            try clear c9b1
            try clear c10
            try clear c10b0
            try clear c10b1
            try clear c11
            try clear c12
            try clear c13
            try clear c19
            try clear p2
            try clear p4
            try clear q4
            obtain ⟨x33_2, rfl, HA, HK2, HB⟩ := hrel
            cases gk with
            | zero => exact absurd HA.out (by simp [node_Symbol.l0])
            | succ k2 =>
              have H := HA.out
              clear HA
              simp only [node_Symbol.l0] at H
              by_cases c20 : x33_2 < (a0.size : Int)
              · rw [if_pos c20] at H
                have c20b0 : decide (x33_2 < (a0.size : Int)) = true := decide_eq_true c20
                clear c20
                by_cases c21 : 0 ≤ x33_2
                · rw [if_pos c21] at H
                  have c21b0 : decide (0 ≤ x33_2) = true := decide_eq_true c21
                  clear c21
                  by_cases c22 : x33_2 < (a0.size : Int)
                  · rw [if_pos c22] at H
                    have c22b0 : decide (x33_2 < (a0.size : Int)) = true := decide_eq_true c22
                    clear c22
                    replace H := Option.bind_eq_some_iff.mp H
                    obtain ⟨t116, A240, H⟩ := H
                    replace H : (if t116 = true then (node_Symbol.l0 k2 a0 (a0.size : Int) (wrap64 (x33_2 + 1))) else (some false)) = some r := H
                    have A24 := Aside0.mk A240
                    clear A240
                    by_cases c25 : t116 = true
                    · subst c25
                      have H1 : (node_Symbol.l0 k2 a0 (a0.size : Int) (wrap64 (x33_2 + 1))) = some r := by rw [if_pos rfl] at H; exact H
                      clear H
                      have H := H1
                      clear H1
                      have H' := Aside0.mk H
                      clear H
                      have p23 : 0 ≤ (x33_2 : Int) := of_decide_eq_true (by first | (with_reducible assumption) | assumption)
                      have q23 : x33_2 < (a0.size : Int) := of_decide_eq_true (by first | (with_reducible assumption) | assumption)
                      have hx23 := bt_at a0 x33_2
                      replace p23 := eq_true p23
                      replace q23 := eq_true q23
                      go_wp2_with (first | ((with_reducible refine gate_callee (f := 130) rfl ?_); refine goesL_ (some 39) rfl rfl Tryd.func130 (by kernel_rfl) rfl #[.int .u8 (bt a0 x33_2)] rfl (by (try simp only [List.map_toArray, List.map_cons, List.map_nil]); first | done | rfl | (simp only [List.length_drop, List.length_take]; rfl)) ?_; (with_reducible refine (node_letter.calls (bt a0 x33_2) true _ A24.out).mono ?_); rintro e w' ⟨rfl, ⟨nd, rfl⟩⟩; refine ⟨_, rfl, ?_⟩))
                      go_roundg k2
                      case measure => have := HJ7.out; have := HK2.out; omega
                      case rel => exact ⟨(wrap64 (x33_2 + 1)), (by first | rfl | (simp; done) | (simp [*]; done)), H', ⟨by have := HJ7.out; have := HK2.out; omega⟩, ⟨by repeat (first | (with_reducible first | exact HB.out | apply below_alloc | apply pw_below_drewN | apply below_drew1) | exact HB.out)⟩⟩
                    · replace c25 := Bool.eq_false_iff.mpr c25
                      subst c25
                      have H1 : (some false) = some r := by rw [if_neg (show ¬ (false = true) by decide)] at H; exact H
                      clear H
                      have H := H1
                      clear H1
                      obtain rfl := Option.some.inj H
                      have p23 : 0 ≤ (x33_2 : Int) := of_decide_eq_true (by first | (with_reducible assumption) | assumption)
                      have q23 : x33_2 < (a0.size : Int) := of_decide_eq_true (by first | (with_reducible assumption) | assumption)
                      have hx23 := bt_at a0 x33_2
                      replace p23 := eq_true p23
                      replace q23 := eq_true q23
                      go_wp2_with (first | ((with_reducible refine gate_callee (f := 130) rfl ?_); refine goesL_ (some 39) rfl rfl Tryd.func130 (by kernel_rfl) rfl #[.int .u8 (bt a0 x33_2)] rfl (by (try simp only [List.map_toArray, List.map_cons, List.map_nil]); first | done | rfl | (simp only [List.length_drop, List.length_take]; rfl)) ?_; (with_reducible refine (node_letter.calls (bt a0 x33_2) false _ A24.out).mono ?_); rintro e w' ⟨rfl, ⟨nd, rfl⟩⟩; refine ⟨_, rfl, ?_⟩))
                      go_ret
                      exact ⟨by first | rfl | (simp [errW_none, errW_some] <;> rfl) | (simp [*, errW_none, errW_some] <;> rfl), by repeat (first | (with_reducible first | exact HB.out | apply below_alloc | apply pw_below_drewN | apply below_drew1) | exact HB.out)⟩
                  · rw [if_neg c22] at H
                    exact absurd H (by simp)
                · rw [if_neg c21] at H
                  exact absurd H (by simp)
              · rw [if_neg c20] at H
                have c20b0 : decide (x33_2 < (a0.size : Int)) = false := decide_eq_false c20
                clear c20
                obtain rfl := Option.some.inj H
                go_wp2
                go_ret
                exact ⟨by first | rfl | (simp [errW_none, errW_some] <;> rfl) | (simp [*, errW_none, errW_some] <;> rfl), by repeat (first | (with_reducible first | exact HB.out | apply below_alloc | apply pw_below_drewN | apply below_drew1) | exact HB.out)⟩
end Go.Proofs.YtagkhoeidjlahaaDoor.G
namespace Go.Proofs.YtagkhoeidjlahaaDoor.G
open Go.RowKit Go.Proofs.YtagkhoeidjlahaaDoorW.PrintWords Go.Proofs.YtagkhoeidjlahaaDoorW.PrintLast Go.Proofs.YtagkhoeidjlahaaDoorW.PrintMore
attribute [local go_sem] max2_int min2_int max_two min_two max_three min_three max_four min_four
set_option linter.unusedVariables false
set_option linter.unusedSimpArgs false
def node_printable.l0 : Nat → ByteArray → Int → Int → Option (Bool)
  | 0, _, _, _ => none
  | k + 1, x0, x5, x6 => if x6 < x5 then (if 0 ≤ x6 then (if x6 < (x0.size : Int) then (if (bt x0 x6) < 32 then (some false) else (if (bt x0 x6) > 126 then (some false) else (node_printable.l0 k x0 x5 (wrap64 (x6 + 1))))) else (none)) else (none)) else (some (decide ((x0.size : Int) ≤ 200)))
def node_printable.f (k : Nat) (a0 : ByteArray) : Option (Bool) := node_printable.l0 k a0 (a0.size : Int) 0
set_option maxHeartbeats 8000000 in
set_option maxRecDepth 100000 in
theorem node_printable.calls (k : Nat) (a0 : ByteArray) (r : Bool) (w : World) (h : node_printable.f k a0 = some r) :
    Calls Tryd.prog 116 #[.string a0] w fun e w' => e = .returned (.bool r) ∧ Drawn0 w w' := by
  have H : (node_printable.l0 k a0 (a0.size : Int) 0) = some r := h
  clear h
  have H' := Aside0.mk H
  clear H
  go_enter Tryd.func116, Tryd.ntmps116
  go_wp2
  go_loopg [6] k (fun kq v6 w' => ∃ (x6_1 : Int), v6 = .int .i64 x6_1 ∧ Aside0 (node_printable.l0 kq a0 (a0.size : Int) x6_1 = some r) ∧ Aside0 (kq ≤ k) ∧ Drawn0 w w')
  case atStart => exact ⟨(0), (by first | rfl | (simp; done) | (simp [*]; done)), H', ⟨Nat.le_refl _⟩, by repeat (first | exact Drawn0.refl _ | apply Drawn0.step)⟩
  case round =>
    clear H'
    try clear c1
    obtain ⟨x6_1, rfl, HA, HK1, ⟨m1, rfl⟩⟩ := hrel
    cases gk with
    | zero => exact absurd HA.out (by simp [node_printable.l0])
    | succ k1 =>
      have H := HA.out
      clear HA
      simp only [node_printable.l0] at H
      by_cases c2 : x6_1 < (a0.size : Int)
      · rw [if_pos c2] at H
        have c2b0 : decide (x6_1 < (a0.size : Int)) = true := decide_eq_true c2
        clear c2
        by_cases c3 : 0 ≤ x6_1
        · rw [if_pos c3] at H
          have c3b0 : decide (0 ≤ x6_1) = true := decide_eq_true c3
          clear c3
          by_cases c4 : x6_1 < (a0.size : Int)
          · rw [if_pos c4] at H
            have c4b0 : decide (x6_1 < (a0.size : Int)) = true := decide_eq_true c4
            clear c4
            by_cases c6 : (bt a0 x6_1) < 32
            · rw [if_pos c6] at H
              have c6b0 : decide ((bt a0 x6_1) < 32) = true := decide_eq_true c6
              clear c6
              obtain rfl := Option.some.inj H
              have p5 : 0 ≤ (x6_1 : Int) := of_decide_eq_true (by first | (with_reducible assumption) | assumption)
              have q5 : x6_1 < (a0.size : Int) := of_decide_eq_true (by first | (with_reducible assumption) | assumption)
              have hx5 := bt_at a0 x6_1
              replace p5 := eq_true p5
              replace q5 := eq_true q5
              go_wp2
              go_ret
              exact ⟨by first | rfl | (simp; done) | (simp [*]; done), by repeat (first | exact Drawn0.refl _ | apply Drawn0.step)⟩
            · rw [if_neg c6] at H
              have c6b0 : decide ((bt a0 x6_1) < 32) = false := decide_eq_false c6
              clear c6
              by_cases c8 : (bt a0 x6_1) > 126
              · rw [if_pos c8] at H
                have c8b0 : decide (126 < (bt a0 x6_1)) = true := decide_eq_true c8
                clear c8
                obtain rfl := Option.some.inj H
                have p5 : 0 ≤ (x6_1 : Int) := of_decide_eq_true (by first | (with_reducible assumption) | assumption)
                have q5 : x6_1 < (a0.size : Int) := of_decide_eq_true (by first | (with_reducible assumption) | assumption)
                have hx5 := bt_at a0 x6_1
                replace p5 := eq_true p5
                replace q5 := eq_true q5
                have p7 : 0 ≤ (x6_1 : Int) := of_decide_eq_true (by first | (with_reducible assumption) | assumption)
                have q7 : x6_1 < (a0.size : Int) := of_decide_eq_true (by first | (with_reducible assumption) | assumption)
                have hx7 := bt_at a0 x6_1
                replace p7 := eq_true p7
                replace q7 := eq_true q7
                go_wp2
                go_ret
                exact ⟨by first | rfl | (simp; done) | (simp [*]; done), by repeat (first | exact Drawn0.refl _ | apply Drawn0.step)⟩
              · rw [if_neg c8] at H
                have c8b0 : decide (126 < (bt a0 x6_1)) = false := decide_eq_false c8
                clear c8
                have H' := Aside0.mk H
                clear H
                have p5 : 0 ≤ (x6_1 : Int) := of_decide_eq_true (by first | (with_reducible assumption) | assumption)
                have q5 : x6_1 < (a0.size : Int) := of_decide_eq_true (by first | (with_reducible assumption) | assumption)
                have hx5 := bt_at a0 x6_1
                replace p5 := eq_true p5
                replace q5 := eq_true q5
                have p7 : 0 ≤ (x6_1 : Int) := of_decide_eq_true (by first | (with_reducible assumption) | assumption)
                have q7 : x6_1 < (a0.size : Int) := of_decide_eq_true (by first | (with_reducible assumption) | assumption)
                have hx7 := bt_at a0 x6_1
                replace p7 := eq_true p7
                replace q7 := eq_true q7
                go_wp2
                go_roundg k1
                case measure => have := HK1.out; omega
                case rel => exact ⟨(wrap64 (x6_1 + 1)), (by first | rfl | (simp; done) | (simp [*]; done)), H', ⟨by have := HK1.out; omega⟩, by repeat (first | exact Drawn0.refl _ | apply Drawn0.step)⟩
          · rw [if_neg c4] at H
            exact absurd H (by simp)
        · rw [if_neg c3] at H
          exact absurd H (by simp)
      · rw [if_neg c2] at H
        have c2b0 : decide (x6_1 < (a0.size : Int)) = false := decide_eq_false c2
        clear c2
        obtain rfl := Option.some.inj H
        go_wp2
        go_ret
        exact ⟨by first | rfl | (simp; done) | (simp [*]; done), by repeat (first | exact Drawn0.refl _ | apply Drawn0.step)⟩
end Go.Proofs.YtagkhoeidjlahaaDoor.G
namespace Go.Proofs.YtagkhoeidjlahaaDoor.G
open Go.RowKit Go.Proofs.YtagkhoeidjlahaaDoorW.PrintWords Go.Proofs.YtagkhoeidjlahaaDoorW.PrintLast Go.Proofs.YtagkhoeidjlahaaDoorW.PrintMore
attribute [local go_sem] max2_int min2_int max_two min_two max_three min_three max_four min_four
set_option linter.unusedVariables false
set_option linter.unusedSimpArgs false
def str (l : List UInt8) : Value := .string ⟨l.toArray⟩
def fnv (n : Nat) : Value := .func (.func n) #[] #[]
def formCells : Array Value := #[str [], .nilFunc, .int .i64 0,
  str [114, 111, 119], fnv 113, .int .i64 (-1),
  str [115, 121, 109], fnv 114, .int .i64 0,
  str [110, 117, 109], fnv 115, .int .i64 0,
  str [116, 101, 120, 116], fnv 116, .int .i64 0,
  str [102, 114, 97, 99], fnv 113, .int .i64 2,
  str [114, 111, 111, 116], fnv 113, .int .i64 2,
  str [115, 117, 98], fnv 113, .int .i64 2,
  str [115, 117, 112], fnv 113, .int .i64 2,
  str [98, 111, 116, 104], fnv 113, .int .i64 3,
  str [97, 99, 99, 101, 110, 116], fnv 117, .int .i64 1,
  str [102, 101, 110, 99, 101], fnv 118, .int .i64 1,
  str [109, 97, 116, 114, 105, 120], fnv 113, .int .i64 (-1)]
def shR (s : ByteArray) (cols : Int) (n : Nat) : Bool := s.toList.isEmpty && cols == 0 && decide (n ≤ 200)
def shM (s : ByteArray) (cols : Int) (n : Nat) : Bool := s.toList.isEmpty && decide (1 ≤ cols) && decide (cols ≤ 16) && decide (1 ≤ n) && decide (n ≤ 256) && ((n : Int) % cols == 0)
def shT (b : Bool) (cols : Int) (n m : Nat) : Bool := b && cols == 0 && n == m
set_option maxHeartbeats 4000000 in
set_option maxRecDepth 100000 in
theorem forms_calls (w : World) : Calls Tryd.prog 99 #[] w fun e w' => e = .returned (.slice (some ⟨w.heap.size, 0, none⟩) 13 13) ∧ w' = w.alloc (.cells formCells 113) := by
  go_enter Tryd.func99, Tryd.ntmps99
  go_wp2
  go_ret
  exact ⟨rfl, rfl⟩
end Go.Proofs.YtagkhoeidjlahaaDoor.G
namespace Go.Proofs.YtagkhoeidjlahaaDoor.G
open Go.RowKit Go.Proofs.YtagkhoeidjlahaaDoorW.PrintWords Go.Proofs.YtagkhoeidjlahaaDoorW.PrintLast Go.Proofs.YtagkhoeidjlahaaDoorW.PrintMore
attribute [local go_sem] max2_int min2_int max_two min_two max_three min_three max_four min_four
set_option linter.unusedVariables false
set_option linter.unusedSimpArgs false
def node_empty.f (a0 : ByteArray) : Option (Bool) := some (a0.toList == ([] : List UInt8))
set_option maxHeartbeats 8000000 in
set_option maxRecDepth 100000 in
theorem node_empty.calls (a0 : ByteArray) (r : Bool) (w : World) (h : node_empty.f a0 = some r) :
    Calls Tryd.prog 113 #[.string a0] w fun e w' => e = .returned (.bool r) ∧ Drawn0 w w' := by
  have H : (some (a0.toList == ([] : List UInt8))) = some r := h
  clear h
  obtain rfl := Option.some.inj H
  go_enter Tryd.func113, Tryd.ntmps113
  go_wp2
  go_ret
  exact ⟨by first | rfl | (simp; done) | (simp [*]; done), by repeat (first | exact Drawn0.refl _ | apply Drawn0.step)⟩
end Go.Proofs.YtagkhoeidjlahaaDoor.G
namespace Go.Proofs.YtagkhoeidjlahaaDoor.G
open Go.RowKit Go.Proofs.YtagkhoeidjlahaaDoorW.PrintWords Go.Proofs.YtagkhoeidjlahaaDoorW.PrintLast Go.Proofs.YtagkhoeidjlahaaDoorW.PrintMore
attribute [local go_sem] max2_int min2_int max_two min_two max_three min_three max_four min_four
set_option linter.unusedVariables false
set_option linter.unusedSimpArgs false
def stringslite_Cut.f (a0 : ByteArray) (a1 : ByteArray) : Option (ByteArray × ByteArray × Bool) := (stringslite_Index.f a0 a1).bind fun t117 => (if t117 ≥ 0 then (if 0 ≤ t117 then (if t117 ≤ (a0.size : Int) then (if 0 ≤ (wrap64 (t117 + (a1.size : Int))) then (if (wrap64 (t117 + (a1.size : Int))) ≤ (a0.size : Int) then (some (a0.extract 0 (t117 : Int).toNat, a0.extract ((wrap64 (t117 + (a1.size : Int))) : Int).toNat a0.size, true)) else (none)) else (none)) else (none)) else (none)) else (some (a0, (⟨#[]⟩ : ByteArray), false)))
set_option maxHeartbeats 8000000 in
set_option maxRecDepth 100000 in
theorem stringslite_Cut.calls (a0 : ByteArray) (a1 : ByteArray) (r1 : ByteArray) (r2 : ByteArray) (r3 : Bool) (w : World) (h : stringslite_Cut.f a0 a1 = some (r1, r2, r3)) :
    Calls Tryd.prog 144 #[.string a0, .string a1] w fun e w' => e = .returned (.tuple #[.string r1, .string r2, .bool r3]) ∧ Drawn0 w w' := by
  have H : ((stringslite_Index.f a0 a1).bind fun t117 => (if t117 ≥ 0 then (if 0 ≤ t117 then (if t117 ≤ (a0.size : Int) then (if 0 ≤ (wrap64 (t117 + (a1.size : Int))) then (if (wrap64 (t117 + (a1.size : Int))) ≤ (a0.size : Int) then (some (a0.extract 0 (t117 : Int).toNat, a0.extract ((wrap64 (t117 + (a1.size : Int))) : Int).toNat a0.size, true)) else (none)) else (none)) else (none)) else (none)) else (some (a0, (⟨#[]⟩ : ByteArray), false)))) = some (r1, r2, r3) := h
  clear h
  replace H := Option.bind_eq_some_iff.mp H
  obtain ⟨t117, A30, H⟩ := H
  replace H : (if t117 ≥ 0 then (if 0 ≤ t117 then (if t117 ≤ (a0.size : Int) then (if 0 ≤ (wrap64 (t117 + (a1.size : Int))) then (if (wrap64 (t117 + (a1.size : Int))) ≤ (a0.size : Int) then (some (a0.extract 0 (t117 : Int).toNat, a0.extract ((wrap64 (t117 + (a1.size : Int))) : Int).toNat a0.size, true)) else (none)) else (none)) else (none)) else (none)) else (some (a0, (⟨#[]⟩ : ByteArray), false))) = some (r1, r2, r3) := H
  have A3 := Aside0.mk A30
  clear A30
  by_cases c4 : t117 ≥ 0
  · rw [if_pos c4] at H
    have c4b0 : decide (0 ≤ t117) = true := decide_eq_true c4
    clear c4
    by_cases c5 : 0 ≤ t117
    · rw [if_pos c5] at H
      have c5b0 := eq_true c5
      have c5b1 : decide (0 ≤ t117) = true := decide_eq_true c5
      clear c5
      by_cases c6 : t117 ≤ (a0.size : Int)
      · rw [if_pos c6] at H
        have c6b0 := eq_true c6
        have c6b1 : decide (t117 ≤ (a0.size : Int)) = true := decide_eq_true c6
        clear c6
        obtain ⟨ji7, hji7⟩ : ∃ j_ : Int, (wrap64 (t117 + (a1.size : Int))) = j_ := ⟨_, rfl⟩
        replace H : (if 0 ≤ (ji7) then (if (ji7) ≤ (a0.size : Int) then (some (a0.extract 0 (t117 : Int).toNat, a0.extract ((ji7) : Int).toNat a0.size, true)) else (none)) else (none)) = some (r1, r2, r3) := by first | (rw [hji7] at H; exact H) | (simp only [hji7] at H ⊢; exact H)
        (try rw [hji7] at A3)
        have hji7w : (IntKind.i64.wrap (t117 + (a1.size : Int))) = ji7 := (i64_w _).trans hji7
        by_cases c8 : 0 ≤ (ji7)
        · rw [if_pos c8] at H
          have c8b0 := eq_true c8
          have c8b1 : decide (0 ≤ (ji7)) = true := decide_eq_true c8
          clear c8
          by_cases c9 : (ji7) ≤ (a0.size : Int)
          · rw [if_pos c9] at H
            have c9b0 := eq_true c9
            have c9b1 : decide ((ji7) ≤ (a0.size : Int)) = true := decide_eq_true c9
            clear c9
            simp only [Option.some.injEq, Prod.mk.injEq] at H
            obtain ⟨rfl, rfl, rfl⟩ := H
            go_enter Tryd.func144, Tryd.ntmps144
            go_wp2_with (first | (go_at_call 146; (with_reducible refine (stringslite_Index.calls a0 a1 t117 _ A3.out).mono ?_); rintro e w' ⟨rfl, ⟨nd, rfl⟩⟩; (try first | exact ⟨rfl, _, World.drewN_drewN _ _ _⟩ | exact ⟨rfl, _, Eq.trans (World.drewN_drewN _ _ _) (congrArg (World.drewN _) (Nat.add_assoc _ _ _))⟩)))
            repeat (go_quiet (first | (go_at_call 146; (with_reducible refine (stringslite_Index.calls a0 a1 t117 _ A3.out).mono ?_); rintro e w' ⟨rfl, ⟨nd, rfl⟩⟩; (try first | exact ⟨rfl, _, World.drewN_drewN _ _ _⟩ | exact ⟨rfl, _, Eq.trans (World.drewN_drewN _ _ _) (congrArg (World.drewN _) (Nat.add_assoc _ _ _))⟩))); try go_wp2_with (first | (go_at_call 146; (with_reducible refine (stringslite_Index.calls a0 a1 t117 _ A3.out).mono ?_); rintro e w' ⟨rfl, ⟨nd, rfl⟩⟩; (try first | exact ⟨rfl, _, World.drewN_drewN _ _ _⟩ | exact ⟨rfl, _, Eq.trans (World.drewN_drewN _ _ _) (congrArg (World.drewN _) (Nat.add_assoc _ _ _))⟩))))
            go_ret3
            exact ⟨by first | rfl | (simp; done) | (simp only [← hji7] <;> (first | rfl | simp)) | (simp [*]; done), by repeat (first | exact Drawn0.refl _ | apply Drawn0.step)⟩
          · rw [if_neg c9] at H
            exact absurd H (by simp)
        · rw [if_neg c8] at H
          exact absurd H (by simp)
      · rw [if_neg c6] at H
        exact absurd H (by simp)
    · rw [if_neg c5] at H
      exact absurd H (by simp)
  · rw [if_neg c4] at H
    have c4b0 : decide (0 ≤ t117) = false := decide_eq_false c4
    clear c4
    simp only [Option.some.injEq, Prod.mk.injEq] at H
    obtain ⟨rfl, rfl, rfl⟩ := H
    go_enter Tryd.func144, Tryd.ntmps144
    go_wp2_with (first | (go_at_call 146; (with_reducible refine (stringslite_Index.calls a0 a1 t117 _ A3.out).mono ?_); rintro e w' ⟨rfl, ⟨nd, rfl⟩⟩; (try first | exact ⟨rfl, _, World.drewN_drewN _ _ _⟩ | exact ⟨rfl, _, Eq.trans (World.drewN_drewN _ _ _) (congrArg (World.drewN _) (Nat.add_assoc _ _ _))⟩)))
    repeat (go_quiet (first | (go_at_call 146; (with_reducible refine (stringslite_Index.calls a0 a1 t117 _ A3.out).mono ?_); rintro e w' ⟨rfl, ⟨nd, rfl⟩⟩; (try first | exact ⟨rfl, _, World.drewN_drewN _ _ _⟩ | exact ⟨rfl, _, Eq.trans (World.drewN_drewN _ _ _) (congrArg (World.drewN _) (Nat.add_assoc _ _ _))⟩))); try go_wp2_with (first | (go_at_call 146; (with_reducible refine (stringslite_Index.calls a0 a1 t117 _ A3.out).mono ?_); rintro e w' ⟨rfl, ⟨nd, rfl⟩⟩; (try first | exact ⟨rfl, _, World.drewN_drewN _ _ _⟩ | exact ⟨rfl, _, Eq.trans (World.drewN_drewN _ _ _) (congrArg (World.drewN _) (Nat.add_assoc _ _ _))⟩))))
    go_ret3
    exact ⟨by first | rfl | (simp; done) | (simp [*]; done), by repeat (first | exact Drawn0.refl _ | apply Drawn0.step)⟩
end Go.Proofs.YtagkhoeidjlahaaDoor.G
namespace Go.Proofs.YtagkhoeidjlahaaDoor.G
open Go.RowKit Go.Proofs.YtagkhoeidjlahaaDoorW.PrintWords Go.Proofs.YtagkhoeidjlahaaDoorW.PrintLast Go.Proofs.YtagkhoeidjlahaaDoorW.PrintMore
attribute [local go_sem] max2_int min2_int max_two min_two max_three min_three max_four min_four
set_option linter.unusedVariables false
set_option linter.unusedSimpArgs false
def strings_Cut.f (a0 : ByteArray) (a1 : ByteArray) : Option (ByteArray × ByteArray × Bool) := (stringslite_Cut.f a0 a1).bind fun bt118 => (some (bt118.1, bt118.2.1, bt118.2.2))
set_option maxHeartbeats 8000000 in
set_option maxRecDepth 100000 in
theorem strings_Cut.calls (a0 : ByteArray) (a1 : ByteArray) (r1 : ByteArray) (r2 : ByteArray) (r3 : Bool) (w : World) (h : strings_Cut.f a0 a1 = some (r1, r2, r3)) :
    Calls Tryd.prog 133 #[.string a0, .string a1] w fun e w' => e = .returned (.tuple #[.string r1, .string r2, .bool r3]) ∧ Drawn0 w w' := by
  have H : ((stringslite_Cut.f a0 a1).bind fun bt118 => (some (bt118.1, bt118.2.1, bt118.2.2))) = some (r1, r2, r3) := h
  clear h
  replace H := Option.bind_eq_some_iff.mp H
  obtain ⟨⟨t118, t119, t120⟩, A30, H⟩ := H
  replace H : (some (t118, t119, t120)) = some (r1, r2, r3) := H
  have A3 := Aside0.mk A30
  clear A30
  simp only [Option.some.injEq, Prod.mk.injEq] at H
  obtain ⟨rfl, rfl, rfl⟩ := H
  go_enter Tryd.func133, Tryd.ntmps133
  go_wp2_with (first | ((with_reducible refine gate_callee (f := 144) rfl ?_); refine goesL_ (some 9) rfl rfl Tryd.func144 (by kernel_rfl) rfl #[.string a0, .string a1] rfl (by (try simp only [List.map_toArray, List.map_cons, List.map_nil]); first | done | rfl | (simp only [List.length_drop, List.length_take]; rfl)) ?_; (with_reducible refine (stringslite_Cut.calls a0 a1 t118 t119 t120 _ A3.out).mono ?_); rintro e w' ⟨rfl, ⟨nd, rfl⟩⟩; refine ⟨_, rfl, ?_⟩))
  go_ret3
  exact ⟨by first | rfl | (simp; done) | (simp [*]; done), by repeat (first | exact Drawn0.refl _ | apply Drawn0.step)⟩
end Go.Proofs.YtagkhoeidjlahaaDoor.G
namespace Go.Proofs.YtagkhoeidjlahaaDoor.G
open Go.RowKit Go.Proofs.YtagkhoeidjlahaaDoorW.PrintWords Go.Proofs.YtagkhoeidjlahaaDoorW.PrintLast Go.Proofs.YtagkhoeidjlahaaDoorW.PrintMore
attribute [local go_sem] max2_int min2_int max_two min_two max_three min_three max_four min_four
set_option linter.unusedVariables false
set_option linter.unusedSimpArgs false
def strings_Trim.f (a0 a1 : ByteArray) : Option ByteArray := if a0.size ≤ 9223372036854775807 ∧ a1.size < 4294967281 ∧ a1.data.toList.all (fun b => decide (b.toNat < 128)) = true then some ⟨(Lib.trimS a0.data.toList a1.data.toList).toArray⟩ else none
theorem strings_Trim.calls (a0 : ByteArray) (a1 : ByteArray) (r : ByteArray) (w : World) (h : strings_Trim.f a0 a1 = some r) :
    Calls Tryd.prog 145 #[.string a0, .string a1] w fun e w' => e = .returned (.string r) ∧ Below w.heap.size w w' := by
  unfold strings_Trim.f at h
  split at h
  · rename_i hc
    obtain rfl := Option.some.inj h
    exact (Any.strings_Trim_laid Tryd.lays160 (by kernel_rfl) a0 a1 w hc.1 hc.2.1 (ascii_of_all hc.2.2)).mono fun e w' ⟨he, hw⟩ => ⟨he, hw⟩
  · cases h
end Go.Proofs.YtagkhoeidjlahaaDoor.G
namespace Go.Proofs.YtagkhoeidjlahaaDoor.G
open Go.RowKit Go.Proofs.YtagkhoeidjlahaaDoorW.PrintWords Go.Proofs.YtagkhoeidjlahaaDoorW.PrintLast Go.Proofs.YtagkhoeidjlahaaDoorW.PrintMore
attribute [local go_sem] max2_int min2_int max_two min_two max_three min_three max_four min_four
set_option linter.unusedVariables false
set_option linter.unusedSimpArgs false
def node_digits.f (a0 : ByteArray) : Option (Bool) := if a0.toList = ([] : List UInt8) then (some false) else ((strings_Trim.f a0 (⟨#[48, 49, 50, 51, 52, 53, 54, 55, 56, 57]⟩ : ByteArray)).bind fun t121 => (some (t121.toList == ([] : List UInt8))))
set_option maxHeartbeats 8000000 in
set_option maxRecDepth 100000 in
theorem node_digits.calls (a0 : ByteArray) (r : Bool) (w : World) (h : node_digits.f a0 = some r) :
    Calls Tryd.prog 134 #[.string a0] w fun e w' => e = .returned (.bool r) ∧ Below w.heap.size w w' := by
  have HB := Aside0.mk (Below.refl w.heap.size w)
  have H : (if a0.toList = ([] : List UInt8) then (some false) else ((strings_Trim.f a0 (⟨#[48, 49, 50, 51, 52, 53, 54, 55, 56, 57]⟩ : ByteArray)).bind fun t121 => (some (t121.toList == ([] : List UInt8))))) = some r := h
  clear h
  by_cases c2 : a0.toList = ([] : List UInt8)
  · rw [if_pos c2] at H
    have c2b0 : (a0.toList == ([] : List UInt8)) = true := beq_iff_eq.mpr c2
    have c2b1 : (a0.toList != ([] : List UInt8)) = false := bne_eq_false_iff_eq.mpr c2
    clear c2
    obtain rfl := Option.some.inj H
    go_enter Tryd.func134, Tryd.ntmps134
    go_wp2
    go_ret
    exact ⟨by first | rfl | (simp [errW_none, errW_some] <;> rfl) | (simp [*, errW_none, errW_some] <;> rfl), by repeat (first | (with_reducible first | exact HB.out | apply below_alloc | apply pw_below_drewN | apply below_drew1) | exact HB.out)⟩
  · rw [if_neg c2] at H
    have c2b0 : (a0.toList == ([] : List UInt8)) = false := beq_eq_false_iff_ne.mpr c2
    have c2b1 : (a0.toList != ([] : List UInt8)) = true := bne_iff_ne.mpr c2
    replace H := Option.bind_eq_some_iff.mp H
    obtain ⟨t121, A30, H⟩ := H
    replace H : (some (t121.toList == ([] : List UInt8))) = some r := H
    have A3 := Aside0.mk A30
    clear A30
    obtain rfl := Option.some.inj H
    go_enter Tryd.func134, Tryd.ntmps134
    go_wp2_with (first | (go_at_call 145; (with_reducible refine (strings_Trim.calls a0 (⟨#[48, 49, 50, 51, 52, 53, 54, 55, 56, 57]⟩ : ByteArray) t121 _ A3.out).mono ?_); rintro e w4 ⟨rfl, hb⟩; have n0_ := Aside0.mk (below_step (by repeat (first | (with_reducible first | exact HB.out | apply below_alloc | apply pw_below_drewN | apply below_drew1) | exact HB.out)) hb); clear HB; have HB := n0_; clear n0_; (try clear hb); (try clear hb2); (try clear hk); (try clear hi)))
    go_ret
    exact ⟨by first | rfl | (simp [errW_none, errW_some] <;> rfl) | (simp [*, errW_none, errW_some] <;> rfl), by repeat (first | (with_reducible first | exact HB.out | apply below_alloc | apply pw_below_drewN | apply below_drew1) | exact HB.out)⟩
end Go.Proofs.YtagkhoeidjlahaaDoor.G
namespace Go.Proofs.YtagkhoeidjlahaaDoor.G
open Go.RowKit Go.Proofs.YtagkhoeidjlahaaDoorW.PrintWords Go.Proofs.YtagkhoeidjlahaaDoorW.PrintLast Go.Proofs.YtagkhoeidjlahaaDoorW.PrintMore
attribute [local go_sem] max2_int min2_int max_two min_two max_three min_three max_four min_four
set_option linter.unusedVariables false
set_option linter.unusedSimpArgs false
def node_Number.f (a0 : ByteArray) : Option (Bool) := if (a0.size : Int) > 20 then (some false) else ((strings_Cut.f a0 (⟨#[46]⟩ : ByteArray)).bind fun bt122 => ((node_digits.f bt122.1).bind fun t125 => (if t125 = true then (if bt122.2.2 = true then ((node_digits.f bt122.2.1).bind fun t126 => (some t126)) else (some true)) else (some false))))
set_option maxHeartbeats 8000000 in
set_option maxRecDepth 100000 in
theorem node_Number.calls (a0 : ByteArray) (r : Bool) (w : World) (h : node_Number.f a0 = some r) :
    Calls Tryd.prog 115 #[.string a0] w fun e w' => e = .returned (.bool r) ∧ Below w.heap.size w w' := by
  have HB := Aside0.mk (Below.refl w.heap.size w)
  have H : (if (a0.size : Int) > 20 then (some false) else ((strings_Cut.f a0 (⟨#[46]⟩ : ByteArray)).bind fun bt122 => ((node_digits.f bt122.1).bind fun t125 => (if t125 = true then (if bt122.2.2 = true then ((node_digits.f bt122.2.1).bind fun t126 => (some t126)) else (some true)) else (some false))))) = some r := h
  clear h
  by_cases c2 : (a0.size : Int) > 20
  · rw [if_pos c2] at H
    have c2b0 : decide (20 < (a0.size : Int)) = true := decide_eq_true c2
    have c2b1 : decide (20 < a0.size) = true := decide_eq_true (by omega)
    clear c2
    obtain rfl := Option.some.inj H
    go_enter Tryd.func115, Tryd.ntmps115
    go_wp2
    go_ret
    exact ⟨by first | rfl | (simp [errW_none, errW_some] <;> rfl) | (simp [*, errW_none, errW_some] <;> rfl), by repeat (first | (with_reducible first | exact HB.out | apply below_alloc | apply pw_below_drewN | apply below_drew1) | exact HB.out)⟩
  · rw [if_neg c2] at H
    have c2b0 : decide (20 < (a0.size : Int)) = false := decide_eq_false c2
    have c2b1 : decide (20 < a0.size) = false := decide_eq_false (by omega)
    clear c2
    replace H := Option.bind_eq_some_iff.mp H
    obtain ⟨⟨t122, t123, t124⟩, A30, H⟩ := H
    replace H : ((node_digits.f t122).bind fun t125 => (if t125 = true then (if t124 = true then ((node_digits.f t123).bind fun t126 => (some t126)) else (some true)) else (some false))) = some r := H
    have A3 := Aside0.mk A30
    clear A30
    replace H := Option.bind_eq_some_iff.mp H
    obtain ⟨t125, A40, H⟩ := H
    replace H : (if t125 = true then (if t124 = true then ((node_digits.f t123).bind fun t126 => (some t126)) else (some true)) else (some false)) = some r := H
    have A4 := Aside0.mk A40
    clear A40
    by_cases c5 : t125 = true
    · subst c5
      have H1 : (if t124 = true then ((node_digits.f t123).bind fun t126 => (some t126)) else (some true)) = some r := by rw [if_pos rfl] at H; exact H
      clear H
      have H := H1
      clear H1
      by_cases c6 : t124 = true
      · subst c6
        have H1 : ((node_digits.f t123).bind fun t126 => (some t126)) = some r := by rw [if_pos rfl] at H; exact H
        clear H
        have H := H1
        clear H1
        replace H := Option.bind_eq_some_iff.mp H
        obtain ⟨t126, A70, H⟩ := H
        replace H : (some t126) = some r := H
        have A7 := Aside0.mk A70
        clear A70
        obtain rfl := Option.some.inj H
        go_enter Tryd.func115, Tryd.ntmps115
        go_wp2_with (first | ((with_reducible refine gate_callee (f := 133) rfl ?_); refine goesL_ (some 11) rfl rfl Tryd.func133 (by kernel_rfl) rfl #[.string a0, .string (⟨#[46]⟩ : ByteArray)] rfl (by (try simp only [List.map_toArray, List.map_cons, List.map_nil]); first | done | rfl | (simp only [List.length_drop, List.length_take]; rfl)) ?_; (with_reducible refine (strings_Cut.calls a0 (⟨#[46]⟩ : ByteArray) t122 t123 true _ A3.out).mono ?_); rintro e w' ⟨rfl, ⟨nd, rfl⟩⟩; refine ⟨_, rfl, ?_⟩) | ((with_reducible refine gate_callee (f := 134) rfl ?_); refine goesL_ (some 16) rfl rfl Tryd.func134 (by kernel_rfl) rfl #[.string t122] rfl (by (try simp only [List.map_toArray, List.map_cons, List.map_nil]); first | done | rfl | (simp only [List.length_drop, List.length_take]; rfl)) ?_; (with_reducible refine (node_digits.calls t122 true _ A4.out).mono ?_); rintro e w8 ⟨rfl, hb⟩; refine ⟨_, rfl, ?_⟩; have n0_ := Aside0.mk (below_step (by repeat (first | (with_reducible first | exact HB.out | apply below_alloc | apply pw_below_drewN | apply below_drew1) | exact HB.out)) hb); clear HB; have HB := n0_; clear n0_; (try clear hb); (try clear hb2); (try clear hk); (try clear hi)) | (go_at_call 134; (with_reducible refine (node_digits.calls t123 t126 _ A7.out).mono ?_); rintro e w9 ⟨rfl, hb⟩; have n0_ := Aside0.mk (below_step (by repeat (first | (with_reducible first | exact HB.out | apply below_alloc | apply pw_below_drewN | apply below_drew1) | exact HB.out)) hb); clear HB; have HB := n0_; clear n0_; (try clear hb); (try clear hb2); (try clear hk); (try clear hi)))
        go_ret
        exact ⟨by first | rfl | (simp [errW_none, errW_some] <;> rfl) | (simp [*, errW_none, errW_some] <;> rfl), by repeat (first | (with_reducible first | exact HB.out | apply below_alloc | apply pw_below_drewN | apply below_drew1) | exact HB.out)⟩
      · replace c6 := Bool.eq_false_iff.mpr c6
        subst c6
        have H1 : (some true) = some r := by rw [if_neg (show ¬ (false = true) by decide)] at H; exact H
        clear H
        have H := H1
        clear H1
        obtain rfl := Option.some.inj H
        go_enter Tryd.func115, Tryd.ntmps115
        go_wp2_with (first | ((with_reducible refine gate_callee (f := 133) rfl ?_); refine goesL_ (some 11) rfl rfl Tryd.func133 (by kernel_rfl) rfl #[.string a0, .string (⟨#[46]⟩ : ByteArray)] rfl (by (try simp only [List.map_toArray, List.map_cons, List.map_nil]); first | done | rfl | (simp only [List.length_drop, List.length_take]; rfl)) ?_; (with_reducible refine (strings_Cut.calls a0 (⟨#[46]⟩ : ByteArray) t122 t123 false _ A3.out).mono ?_); rintro e w' ⟨rfl, ⟨nd, rfl⟩⟩; refine ⟨_, rfl, ?_⟩) | ((with_reducible refine gate_callee (f := 134) rfl ?_); refine goesL_ (some 16) rfl rfl Tryd.func134 (by kernel_rfl) rfl #[.string t122] rfl (by (try simp only [List.map_toArray, List.map_cons, List.map_nil]); first | done | rfl | (simp only [List.length_drop, List.length_take]; rfl)) ?_; (with_reducible refine (node_digits.calls t122 true _ A4.out).mono ?_); rintro e w10 ⟨rfl, hb⟩; refine ⟨_, rfl, ?_⟩; have n0_ := Aside0.mk (below_step (by repeat (first | (with_reducible first | exact HB.out | apply below_alloc | apply pw_below_drewN | apply below_drew1) | exact HB.out)) hb); clear HB; have HB := n0_; clear n0_; (try clear hb); (try clear hb2); (try clear hk); (try clear hi)))
        go_ret
        exact ⟨by first | rfl | (simp [errW_none, errW_some] <;> rfl) | (simp [*, errW_none, errW_some] <;> rfl), by repeat (first | (with_reducible first | exact HB.out | apply below_alloc | apply pw_below_drewN | apply below_drew1) | exact HB.out)⟩
    · replace c5 := Bool.eq_false_iff.mpr c5
      subst c5
      have H1 : (some false) = some r := by rw [if_neg (show ¬ (false = true) by decide)] at H; exact H
      clear H
      have H := H1
      clear H1
      obtain rfl := Option.some.inj H
      go_enter Tryd.func115, Tryd.ntmps115
      go_wp2_with (first | ((with_reducible refine gate_callee (f := 133) rfl ?_); refine goesL_ (some 11) rfl rfl Tryd.func133 (by kernel_rfl) rfl #[.string a0, .string (⟨#[46]⟩ : ByteArray)] rfl (by (try simp only [List.map_toArray, List.map_cons, List.map_nil]); first | done | rfl | (simp only [List.length_drop, List.length_take]; rfl)) ?_; (with_reducible refine (strings_Cut.calls a0 (⟨#[46]⟩ : ByteArray) t122 t123 t124 _ A3.out).mono ?_); rintro e w' ⟨rfl, ⟨nd, rfl⟩⟩; refine ⟨_, rfl, ?_⟩) | ((with_reducible refine gate_callee (f := 134) rfl ?_); refine goesL_ (some 16) rfl rfl Tryd.func134 (by kernel_rfl) rfl #[.string t122] rfl (by (try simp only [List.map_toArray, List.map_cons, List.map_nil]); first | done | rfl | (simp only [List.length_drop, List.length_take]; rfl)) ?_; (with_reducible refine (node_digits.calls t122 false _ A4.out).mono ?_); rintro e w11 ⟨rfl, hb⟩; refine ⟨_, rfl, ?_⟩; have n0_ := Aside0.mk (below_step (by repeat (first | (with_reducible first | exact HB.out | apply below_alloc | apply pw_below_drewN | apply below_drew1) | exact HB.out)) hb); clear HB; have HB := n0_; clear n0_; (try clear hb); (try clear hb2); (try clear hk); (try clear hi)))
      go_ret
      exact ⟨by first | rfl | (simp [errW_none, errW_some] <;> rfl) | (simp [*, errW_none, errW_some] <;> rfl), by repeat (first | (with_reducible first | exact HB.out | apply below_alloc | apply pw_below_drewN | apply below_drew1) | exact HB.out)⟩
end Go.Proofs.YtagkhoeidjlahaaDoor.G
namespace Go.Proofs.YtagkhoeidjlahaaDoor.G
open Go.RowKit Go.Proofs.YtagkhoeidjlahaaDoorW.PrintWords Go.Proofs.YtagkhoeidjlahaaDoorW.PrintLast Go.Proofs.YtagkhoeidjlahaaDoorW.PrintMore
attribute [local go_sem] max2_int min2_int max_two min_two max_three min_three max_four min_four
set_option linter.unusedVariables false
set_option linter.unusedSimpArgs false
def node_fence.f (a0 : ByteArray) : Option (Bool) := if (a0.size : Int) = 2 then (if 0 ≤ 1 then (if 1 ≤ (a0.size : Int) then ((strings_Contains.f (⟨#[40, 41, 91, 93, 123, 125, 60, 62, 47, 124, 46]⟩ : ByteArray) (a0.extract 0 1)).bind fun t127 => (if t127 = true then ((strings_Contains.f (⟨#[40, 41, 91, 93, 123, 125, 60, 62, 47, 124, 46]⟩ : ByteArray) (a0.extract 1 a0.size)).bind fun t128 => (some t128)) else (some false))) else (none)) else (none)) else (some false)
set_option maxHeartbeats 8000000 in
set_option maxRecDepth 100000 in
theorem node_fence.calls (a0 : ByteArray) (r : Bool) (w : World) (h : node_fence.f a0 = some r) :
    Calls Tryd.prog 118 #[.string a0] w fun e w' => e = .returned (.bool r) ∧ Drawn0 w w' := by
  have H : (if (a0.size : Int) = 2 then (if 0 ≤ 1 then (if 1 ≤ (a0.size : Int) then ((strings_Contains.f (⟨#[40, 41, 91, 93, 123, 125, 60, 62, 47, 124, 46]⟩ : ByteArray) (a0.extract 0 1)).bind fun t127 => (if t127 = true then ((strings_Contains.f (⟨#[40, 41, 91, 93, 123, 125, 60, 62, 47, 124, 46]⟩ : ByteArray) (a0.extract 1 a0.size)).bind fun t128 => (some t128)) else (some false))) else (none)) else (none)) else (some false)) = some r := h
  clear h
  by_cases c2 : (a0.size : Int) = 2
  · rw [if_pos c2] at H
    have c2b0 : ((a0.size : Int) == 2) = true := beq_iff_eq.mpr c2
    have c2b1 : ((a0.size : Int) != 2) = false := bne_eq_false_iff_eq.mpr c2
    clear c2
    by_cases c3 : 0 ≤ 1
    · rw [if_pos c3] at H
      have c3b0 := eq_true c3
      have c3b1 : decide (0 ≤ 1) = true := decide_eq_true c3
      clear c3
      by_cases c4 : 1 ≤ (a0.size : Int)
      · rw [if_pos c4] at H
        have c4b0 := eq_true c4
        have c4b1 : decide (1 ≤ (a0.size : Int)) = true := decide_eq_true c4
        clear c4
        replace H := Option.bind_eq_some_iff.mp H
        obtain ⟨t127, A50, H⟩ := H
        replace H : (if t127 = true then ((strings_Contains.f (⟨#[40, 41, 91, 93, 123, 125, 60, 62, 47, 124, 46]⟩ : ByteArray) (a0.extract 1 a0.size)).bind fun t128 => (some t128)) else (some false)) = some r := H
        have A5 := Aside0.mk A50
        clear A50
        by_cases c6 : t127 = true
        · subst c6
          have H1 : ((strings_Contains.f (⟨#[40, 41, 91, 93, 123, 125, 60, 62, 47, 124, 46]⟩ : ByteArray) (a0.extract 1 a0.size)).bind fun t128 => (some t128)) = some r := by rw [if_pos rfl] at H; exact H
          clear H
          have H := H1
          clear H1
          have c7b0 := eq_true (of_decide_eq_true (by first | (with_reducible assumption) | assumption) : 1 ≤ (a0.size : Int))
          replace H := Option.bind_eq_some_iff.mp H
          obtain ⟨t128, A80, H⟩ := H
          replace H : (some t128) = some r := H
          have A8 := Aside0.mk A80
          clear A80
          obtain rfl := Option.some.inj H
          go_enter Tryd.func118, Tryd.ntmps118
          go_wp2_with (first | (go_at_call 131; (with_reducible refine (strings_Contains.calls (⟨#[40, 41, 91, 93, 123, 125, 60, 62, 47, 124, 46]⟩ : ByteArray) (a0.extract 0 1) true _ A5.out).mono ?_); rintro e w' ⟨rfl, ⟨nd, rfl⟩⟩) | (go_at_call 131; (with_reducible refine (strings_Contains.calls (⟨#[40, 41, 91, 93, 123, 125, 60, 62, 47, 124, 46]⟩ : ByteArray) (a0.extract 1 a0.size) t128 _ A8.out).mono ?_); rintro e w' ⟨rfl, ⟨nd, rfl⟩⟩))
          go_ret
          exact ⟨by first | rfl | (simp; done) | (simp [*]; done), by repeat (first | exact Drawn0.refl _ | apply Drawn0.step)⟩
        · replace c6 := Bool.eq_false_iff.mpr c6
          subst c6
          have H1 : (some false) = some r := by rw [if_neg (show ¬ (false = true) by decide)] at H; exact H
          clear H
          have H := H1
          clear H1
          obtain rfl := Option.some.inj H
          go_enter Tryd.func118, Tryd.ntmps118
          go_wp2_with (first | (go_at_call 131; (with_reducible refine (strings_Contains.calls (⟨#[40, 41, 91, 93, 123, 125, 60, 62, 47, 124, 46]⟩ : ByteArray) (a0.extract 0 1) false _ A5.out).mono ?_); rintro e w' ⟨rfl, ⟨nd, rfl⟩⟩))
          go_ret
          exact ⟨by first | rfl | (simp; done) | (simp [*]; done), by repeat (first | exact Drawn0.refl _ | apply Drawn0.step)⟩
      · rw [if_neg c4] at H
        exact absurd H (by simp)
    · rw [if_neg c3] at H
      exact absurd H (by simp)
  · rw [if_neg c2] at H
    have c2b0 : ((a0.size : Int) == 2) = false := beq_eq_false_iff_ne.mpr c2
    have c2b1 : ((a0.size : Int) != 2) = true := bne_iff_ne.mpr c2
    obtain rfl := Option.some.inj H
    go_enter Tryd.func118, Tryd.ntmps118
    go_wp2
    go_ret
    exact ⟨by first | rfl | (simp; done) | (simp [*]; done), by repeat (first | exact Drawn0.refl _ | apply Drawn0.step)⟩
end Go.Proofs.YtagkhoeidjlahaaDoor.G
namespace Go.Proofs.YtagkhoeidjlahaaDoor.G
open Go.RowKit Go.Proofs.YtagkhoeidjlahaaDoorW.PrintWords Go.Proofs.YtagkhoeidjlahaaDoorW.PrintLast Go.Proofs.YtagkhoeidjlahaaDoorW.PrintMore
attribute [local go_sem] max2_int min2_int max_two min_two max_three min_three max_four min_four
set_option linter.unusedVariables false
set_option linter.unusedSimpArgs false
set_option maxHeartbeats 4000000 in
set_option maxRecDepth 100000 in
theorem shapeOut (kd : Int) (s : ByteArray) (cols : Int) (A : Option Addr) (n c g : Nat) (w : World) (hk : kd < 1 ∨ 12 < kd) :
    Calls Tryd.prog 119 #[.pointer (some ⟨g, 0, none⟩), .agg #[.int .i64 kd, .string s, .int .i64 cols, .slice A n c]] w fun e w' => e = .returned (.bool false) ∧ Below w.heap.size w w' := by
  have hu36 := Tryd.underlying36
  rcases hk with h | h
  · have h' : decide (kd < 1) = true := decide_eq_true h
    go_enter Tryd.func119, Tryd.ntmps119
    go_wp2
    go_ret
    exact ⟨rfl, below_alloc (Below.refl _ _) _⟩
  · have h' : decide (kd < 1) = false := decide_eq_false (by omega)
    have h'' : decide (12 < kd) = true := decide_eq_true h
    go_enter Tryd.func119, Tryd.ntmps119
    go_wp2
    go_ret
    exact ⟨rfl, below_alloc (Below.refl _ _) _⟩
set_option maxHeartbeats 4000000 in
set_option maxRecDepth 100000 in
theorem shape1 (s : ByteArray) (cols : Int) (A : Option Addr) (n c g gf : Nat) (left : Int) (w : World) (hn : n ≤ 9223372036854775807)
    (hg : w.heap[g]? = some (.cells #[.slice (some ⟨gf, 0, none⟩) 13 13, .int .i64 left] 103 (0, 0))) (hf : w.heap[gf]? = some (.cells formCells 113 (0, 0))) :
    Calls Tryd.prog 119 #[.pointer (some ⟨g, 0, none⟩), .agg #[.int .i64 1, .string s, .int .i64 cols, .slice A n c]] w fun e w' => e = .returned (.bool (shR s cols n)) ∧ Below w.heap.size w w' := by
  have hc := blk_cell hg 0
  have hfc0 := blk_cell hf 3
  have hfc1 := blk_cell hf 4
  have hfc2 := blk_cell hf 5
  have hlg := blk_lt hg
  have hlf := blk_lt hf
  have hu113 := Tryd.underlying113
  have hu36 := Tryd.underlying36
  have hu103 := Tryd.underlying103
  simp [formCells, str, fnv] at hc hfc0 hfc1 hfc2
  clear hg hf
  by_cases h0 : s.toList.isEmpty = true
  · by_cases h1 : cols = 0
    · subst h1
      by_cases h2 : n ≤ 200
      · have h2b : decide ((n : Int) ≤ 200) = true := decide_eq_true (by omega)
        have HF : Aside0 (shR s 0 n = true) := ⟨by unfold shR; simp [h0]; omega⟩
        go_enter Tryd.func119, Tryd.ntmps119
        go_wp2
        go_region
        go_wp2
        go_ret
        exact ⟨by rw [HF.out]; rfl, below_drew1 (below_alloc (below_alloc (Below.refl _ _) _) _)⟩
      · have h2b : decide ((n : Int) ≤ 200) = false := decide_eq_false (by omega)
        have HF : Aside0 (shR s 0 n = false) := ⟨by unfold shR; simp [h0]; omega⟩
        go_enter Tryd.func119, Tryd.ntmps119
        go_wp2
        go_region
        go_wp2
        go_ret
        exact ⟨by rw [HF.out]; rfl, below_drew1 (below_alloc (below_alloc (Below.refl _ _) _) _)⟩
    · have h1b : (cols == 0) = false := by simpa using h1
      have HF : Aside0 (shR s cols n = false) := ⟨by unfold shR; simp [h1]⟩
      go_enter Tryd.func119, Tryd.ntmps119
      go_wp2
      go_region
      go_wp2
      go_ret
      exact ⟨by rw [HF.out]; rfl, below_drew1 (below_alloc (below_alloc (Below.refl _ _) _) _)⟩
  · replace h0 : s.toList.isEmpty = false := by simpa using h0
    have HF : Aside0 (shR s cols n = false) := ⟨by unfold shR; simp [h0]⟩
    go_enter Tryd.func119, Tryd.ntmps119
    go_wp2
    go_region
    go_wp2
    go_ret
    exact ⟨by rw [HF.out]; rfl, below_drew1 (below_alloc (below_alloc (Below.refl _ _) _) _)⟩
set_option maxHeartbeats 4000000 in
set_option maxRecDepth 100000 in
theorem shape12 (s : ByteArray) (cols : Int) (A : Option Addr) (n c g gf : Nat) (left : Int) (w : World) (hn : n ≤ 9223372036854775807)
    (hg : w.heap[g]? = some (.cells #[.slice (some ⟨gf, 0, none⟩) 13 13, .int .i64 left] 103 (0, 0))) (hf : w.heap[gf]? = some (.cells formCells 113 (0, 0))) :
    Calls Tryd.prog 119 #[.pointer (some ⟨g, 0, none⟩), .agg #[.int .i64 12, .string s, .int .i64 cols, .slice A n c]] w fun e w' => e = .returned (.bool (shM s cols n)) ∧ Below w.heap.size w w' := by
  have hc := blk_cell hg 0
  have hfc0 := blk_cell hf 36
  have hfc1 := blk_cell hf 37
  have hfc2 := blk_cell hf 38
  have hlg := blk_lt hg
  have hlf := blk_lt hf
  have hu113 := Tryd.underlying113
  have hu36 := Tryd.underlying36
  have hu103 := Tryd.underlying103
  simp [formCells, str, fnv] at hc hfc0 hfc1 hfc2
  clear hg hf
  have END : ∀ {W : World}, Below w.heap.size w ((w.alloc (.cells #[.int .i64 12, .string s, .int .i64 cols, .slice A n c] 36)).alloc (.cells #[.string ⟨#[109, 97, 116, 114, 105, 120]⟩, .func (.func 113) #[] #[], .int .i64 (-1)] 113)).drew := fun {_} => below_drew1 (below_alloc (below_alloc (Below.refl _ _) _) _)
  by_cases h0 : s.toList.isEmpty = true
  · by_cases h1 : 1 ≤ cols
    · by_cases h2 : cols ≤ 16
      · by_cases h3 : 1 ≤ n
        · by_cases h4 : n ≤ 256
          · by_cases h5 : (n : Int) % cols = 0
            · have h5b : ((n : Int) % cols == 0) = true := by simpa using h5
              have H5 := Aside0.mk h5
              clear h5
              have HF : Aside0 (shM s cols n = true) := ⟨by unfold shM; simp [h0, h1, h2, h3, h4, h5b]⟩
              go_enter Tryd.func119, Tryd.ntmps119
              go_wp2
              go_region
              go_wp2
              go_ret
              exact ⟨by rw [HF.out]; rfl, END (W := w)⟩
            · have h5b : ((n : Int) % cols == 0) = false := by simpa using h5
              clear h5
              have HF : Aside0 (shM s cols n = false) := ⟨by unfold shM; simp [h5b]⟩
              go_enter Tryd.func119, Tryd.ntmps119
              go_wp2
              go_region
              go_wp2
              go_ret
              exact ⟨by rw [HF.out]; rfl, END (W := w)⟩
          · have HF : Aside0 (shM s cols n = false) := ⟨by unfold shM; rw [decide_eq_false h4]; simp⟩
            go_enter Tryd.func119, Tryd.ntmps119
            go_wp2
            go_region
            go_wp2
            go_ret
            exact ⟨by rw [HF.out]; rfl, END (W := w)⟩
        · have HF : Aside0 (shM s cols n = false) := ⟨by unfold shM; rw [decide_eq_false h3]; simp⟩
          go_enter Tryd.func119, Tryd.ntmps119
          go_wp2
          go_region
          go_wp2
          go_ret
          exact ⟨by rw [HF.out]; rfl, END (W := w)⟩
      · have HF : Aside0 (shM s cols n = false) := ⟨by unfold shM; rw [decide_eq_false h2]; simp⟩
        go_enter Tryd.func119, Tryd.ntmps119
        go_wp2
        go_region
        go_wp2
        go_ret
        exact ⟨by rw [HF.out]; rfl, END (W := w)⟩
    · have HF : Aside0 (shM s cols n = false) := ⟨by unfold shM; rw [decide_eq_false h1]; simp⟩
      go_enter Tryd.func119, Tryd.ntmps119
      go_wp2
      go_region
      go_wp2
      go_ret
      exact ⟨by rw [HF.out]; rfl, END (W := w)⟩
  · replace h0 : s.toList.isEmpty = false := by simpa using h0
    have H0 := Aside0.mk h0
    have HF : Aside0 (shM s cols n = false) := ⟨by unfold shM; simp [h0]⟩
    go_enter Tryd.func119, Tryd.ntmps119
    go_wp2
    go_region
    go_wp2
    go_ret
    exact ⟨by rw [HF.out]; rfl, END (W := w)⟩
end Go.Proofs.YtagkhoeidjlahaaDoor.G
namespace Go.Proofs.YtagkhoeidjlahaaDoor.G
open Go.RowKit Go.Proofs.YtagkhoeidjlahaaDoorW.PrintWords Go.Proofs.YtagkhoeidjlahaaDoorW.PrintLast Go.Proofs.YtagkhoeidjlahaaDoorW.PrintMore
attribute [local go_sem] max2_int min2_int max_two min_two max_three min_three max_four min_four
set_option linter.unusedVariables false
set_option linter.unusedSimpArgs false
set_option maxHeartbeats 4000000 in
set_option maxRecDepth 100000 in
theorem shape2 (s : ByteArray) (cols : Int) (A : Option Addr) (n c g gf : Nat) (left : Int) (b : Bool) (w : World) (hn : n ≤ 9223372036854775807)
    (hg : w.heap[g]? = some (.cells #[.slice (some ⟨gf, 0, none⟩) 13 13, .int .i64 left] 103 (0, 0))) (hf : w.heap[gf]? = some (.cells formCells 113 (0, 0)))
    (ht : ∀ W, Calls Tryd.prog 114 #[.string s] W fun e W' => e = .returned (.bool b) ∧ Below W.heap.size W W') :
    Calls Tryd.prog 119 #[.pointer (some ⟨g, 0, none⟩), .agg #[.int .i64 2, .string s, .int .i64 cols, .slice A n c]] w fun e w' => e = .returned (.bool (shT b cols n 0)) ∧ Below w.heap.size w w' := by
  have hc := blk_cell hg 0
  have hfc0 := blk_cell hf 6
  have hfc1 := blk_cell hf 7
  have hfc2 := blk_cell hf 8
  have hlg := blk_lt hg
  have hlf := blk_lt hf
  have hu113 := Tryd.underlying113
  have hu36 := Tryd.underlying36
  have hu103 := Tryd.underlying103
  simp [formCells, str, fnv] at hc hfc0 hfc1 hfc2
  have HT := Aside0.mk ht
  clear hg hf ht

  have hfin : ∀ w', Below ((w.alloc (.cells #[.int .i64 2, .string s, .int .i64 cols, .slice A n c] 36)).alloc (.cells #[.string ⟨#[115, 121, 109]⟩, .func (.func 114) #[] #[], .int .i64 0] 113)).drew.heap.size ((w.alloc (.cells #[.int .i64 2, .string s, .int .i64 cols, .slice A n c] 36)).alloc (.cells #[.string ⟨#[115, 121, 109]⟩, .func (.func 114) #[] #[], .int .i64 0] 113)).drew w' → Below w.heap.size w w' := fun w' hb => below_step (below_drew1 (below_alloc (below_alloc (Below.refl _ _) _) _)) hb
  have HFIN := Aside0.mk hfin
  clear hfin
  cases b with
  | false =>
    have HF : Aside0 (shT false cols n 0 = false) := ⟨by rfl⟩
    go_enter Tryd.func119, Tryd.ntmps119
    go_wp2
    go_region
    go_wp2_with (go_at_call 114; refine (HT.out _).mono ?_; rintro e w' ⟨rfl, hb⟩; have HB := Aside0.mk (HFIN.out _ hb); clear hb)
    go_ret
    exact ⟨by rw [HF.out]; rfl, HB.out⟩
  | true =>
    by_cases h1 : cols = 0
    · subst h1
      by_cases h2 : n = 0
      · subst h2
        have HF : Aside0 (shT true 0 0 0 = true) := ⟨by rfl⟩
        go_enter Tryd.func119, Tryd.ntmps119
        go_wp2
        go_region
        go_wp2_with (go_at_call 114; refine (HT.out _).mono ?_; rintro e w' ⟨rfl, hb⟩; have b1 := blk_below (blk_drew (blk_alloc (blk_new w _) _)) hb; have b2 := blk_below (blk_drew (blk_new (w.alloc _) _)) hb; have q2 := blk_cell b1 2; have q3 := blk_cell b1 3; have q4 := blk_cell b2 2; have HB := Aside0.mk (HFIN.out _ hb); clear hb b1 b2; simp at q2 q3 q4)
        go_ret
        exact ⟨by rw [HF.out]; rfl, HB.out⟩
      · have h2b : ((n : Int) == 0) = false := by simp; omega
        have HF : Aside0 (shT true 0 n 0 = false) := ⟨by unfold shT; simp [h2]⟩
        go_enter Tryd.func119, Tryd.ntmps119
        go_wp2
        go_region
        go_wp2_with (go_at_call 114; refine (HT.out _).mono ?_; rintro e w' ⟨rfl, hb⟩; have b1 := blk_below (blk_drew (blk_alloc (blk_new w _) _)) hb; have b2 := blk_below (blk_drew (blk_new (w.alloc _) _)) hb; have q2 := blk_cell b1 2; have q3 := blk_cell b1 3; have q4 := blk_cell b2 2; have HB := Aside0.mk (HFIN.out _ hb); clear hb b1 b2; simp at q2 q3 q4)
        go_ret
        exact ⟨by rw [HF.out]; rfl, HB.out⟩
    · have h1b : (cols == 0) = false := by simpa using h1
      have HF : Aside0 (shT true cols n 0 = false) := ⟨by unfold shT; simp [h1]⟩
      go_enter Tryd.func119, Tryd.ntmps119
      go_wp2
      go_region
      go_wp2_with (go_at_call 114; refine (HT.out _).mono ?_; rintro e w' ⟨rfl, hb⟩; have b1 := blk_below (blk_drew (blk_alloc (blk_new w _) _)) hb; have b2 := blk_below (blk_drew (blk_new (w.alloc _) _)) hb; have q2 := blk_cell b1 2; have q3 := blk_cell b1 3; have q4 := blk_cell b2 2; have HB := Aside0.mk (HFIN.out _ hb); clear hb b1 b2; simp at q2 q3 q4)
      go_ret
      exact ⟨by rw [HF.out]; rfl, HB.out⟩
set_option maxHeartbeats 4000000 in
set_option maxRecDepth 100000 in
theorem shape3 (s : ByteArray) (cols : Int) (A : Option Addr) (n c g gf : Nat) (left : Int) (b : Bool) (w : World) (hn : n ≤ 9223372036854775807)
    (hg : w.heap[g]? = some (.cells #[.slice (some ⟨gf, 0, none⟩) 13 13, .int .i64 left] 103 (0, 0))) (hf : w.heap[gf]? = some (.cells formCells 113 (0, 0)))
    (ht : ∀ W, Calls Tryd.prog 115 #[.string s] W fun e W' => e = .returned (.bool b) ∧ Below W.heap.size W W') :
    Calls Tryd.prog 119 #[.pointer (some ⟨g, 0, none⟩), .agg #[.int .i64 3, .string s, .int .i64 cols, .slice A n c]] w fun e w' => e = .returned (.bool (shT b cols n 0)) ∧ Below w.heap.size w w' := by
  have hc := blk_cell hg 0
  have hfc0 := blk_cell hf 9
  have hfc1 := blk_cell hf 10
  have hfc2 := blk_cell hf 11
  have hlg := blk_lt hg
  have hlf := blk_lt hf
  have hu113 := Tryd.underlying113
  have hu36 := Tryd.underlying36
  have hu103 := Tryd.underlying103
  simp [formCells, str, fnv] at hc hfc0 hfc1 hfc2
  have HT := Aside0.mk ht
  clear hg hf ht

  have hfin : ∀ w', Below ((w.alloc (.cells #[.int .i64 3, .string s, .int .i64 cols, .slice A n c] 36)).alloc (.cells #[.string ⟨#[110, 117, 109]⟩, .func (.func 115) #[] #[], .int .i64 0] 113)).drew.heap.size ((w.alloc (.cells #[.int .i64 3, .string s, .int .i64 cols, .slice A n c] 36)).alloc (.cells #[.string ⟨#[110, 117, 109]⟩, .func (.func 115) #[] #[], .int .i64 0] 113)).drew w' → Below w.heap.size w w' := fun w' hb => below_step (below_drew1 (below_alloc (below_alloc (Below.refl _ _) _) _)) hb
  have HFIN := Aside0.mk hfin
  clear hfin
  cases b with
  | false =>
    have HF : Aside0 (shT false cols n 0 = false) := ⟨by rfl⟩
    go_enter Tryd.func119, Tryd.ntmps119
    go_wp2
    go_region
    go_wp2_with (go_at_call 115; refine (HT.out _).mono ?_; rintro e w' ⟨rfl, hb⟩; have HB := Aside0.mk (HFIN.out _ hb); clear hb)
    go_ret
    exact ⟨by rw [HF.out]; rfl, HB.out⟩
  | true =>
    by_cases h1 : cols = 0
    · subst h1
      by_cases h2 : n = 0
      · subst h2
        have HF : Aside0 (shT true 0 0 0 = true) := ⟨by rfl⟩
        go_enter Tryd.func119, Tryd.ntmps119
        go_wp2
        go_region
        go_wp2_with (go_at_call 115; refine (HT.out _).mono ?_; rintro e w' ⟨rfl, hb⟩; have b1 := blk_below (blk_drew (blk_alloc (blk_new w _) _)) hb; have b2 := blk_below (blk_drew (blk_new (w.alloc _) _)) hb; have q2 := blk_cell b1 2; have q3 := blk_cell b1 3; have q4 := blk_cell b2 2; have HB := Aside0.mk (HFIN.out _ hb); clear hb b1 b2; simp at q2 q3 q4)
        go_ret
        exact ⟨by rw [HF.out]; rfl, HB.out⟩
      · have h2b : ((n : Int) == 0) = false := by simp; omega
        have HF : Aside0 (shT true 0 n 0 = false) := ⟨by unfold shT; simp [h2]⟩
        go_enter Tryd.func119, Tryd.ntmps119
        go_wp2
        go_region
        go_wp2_with (go_at_call 115; refine (HT.out _).mono ?_; rintro e w' ⟨rfl, hb⟩; have b1 := blk_below (blk_drew (blk_alloc (blk_new w _) _)) hb; have b2 := blk_below (blk_drew (blk_new (w.alloc _) _)) hb; have q2 := blk_cell b1 2; have q3 := blk_cell b1 3; have q4 := blk_cell b2 2; have HB := Aside0.mk (HFIN.out _ hb); clear hb b1 b2; simp at q2 q3 q4)
        go_ret
        exact ⟨by rw [HF.out]; rfl, HB.out⟩
    · have h1b : (cols == 0) = false := by simpa using h1
      have HF : Aside0 (shT true cols n 0 = false) := ⟨by unfold shT; simp [h1]⟩
      go_enter Tryd.func119, Tryd.ntmps119
      go_wp2
      go_region
      go_wp2_with (go_at_call 115; refine (HT.out _).mono ?_; rintro e w' ⟨rfl, hb⟩; have b1 := blk_below (blk_drew (blk_alloc (blk_new w _) _)) hb; have b2 := blk_below (blk_drew (blk_new (w.alloc _) _)) hb; have q2 := blk_cell b1 2; have q3 := blk_cell b1 3; have q4 := blk_cell b2 2; have HB := Aside0.mk (HFIN.out _ hb); clear hb b1 b2; simp at q2 q3 q4)
      go_ret
      exact ⟨by rw [HF.out]; rfl, HB.out⟩
set_option maxHeartbeats 4000000 in
set_option maxRecDepth 100000 in
theorem shape4 (s : ByteArray) (cols : Int) (A : Option Addr) (n c g gf : Nat) (left : Int) (b : Bool) (w : World) (hn : n ≤ 9223372036854775807)
    (hg : w.heap[g]? = some (.cells #[.slice (some ⟨gf, 0, none⟩) 13 13, .int .i64 left] 103 (0, 0))) (hf : w.heap[gf]? = some (.cells formCells 113 (0, 0)))
    (ht : ∀ W, Calls Tryd.prog 116 #[.string s] W fun e W' => e = .returned (.bool b) ∧ Below W.heap.size W W') :
    Calls Tryd.prog 119 #[.pointer (some ⟨g, 0, none⟩), .agg #[.int .i64 4, .string s, .int .i64 cols, .slice A n c]] w fun e w' => e = .returned (.bool (shT b cols n 0)) ∧ Below w.heap.size w w' := by
  have hc := blk_cell hg 0
  have hfc0 := blk_cell hf 12
  have hfc1 := blk_cell hf 13
  have hfc2 := blk_cell hf 14
  have hlg := blk_lt hg
  have hlf := blk_lt hf
  have hu113 := Tryd.underlying113
  have hu36 := Tryd.underlying36
  have hu103 := Tryd.underlying103
  simp [formCells, str, fnv] at hc hfc0 hfc1 hfc2
  have HT := Aside0.mk ht
  clear hg hf ht

  have hfin : ∀ w', Below ((w.alloc (.cells #[.int .i64 4, .string s, .int .i64 cols, .slice A n c] 36)).alloc (.cells #[.string ⟨#[116, 101, 120, 116]⟩, .func (.func 116) #[] #[], .int .i64 0] 113)).drew.heap.size ((w.alloc (.cells #[.int .i64 4, .string s, .int .i64 cols, .slice A n c] 36)).alloc (.cells #[.string ⟨#[116, 101, 120, 116]⟩, .func (.func 116) #[] #[], .int .i64 0] 113)).drew w' → Below w.heap.size w w' := fun w' hb => below_step (below_drew1 (below_alloc (below_alloc (Below.refl _ _) _) _)) hb
  have HFIN := Aside0.mk hfin
  clear hfin
  cases b with
  | false =>
    have HF : Aside0 (shT false cols n 0 = false) := ⟨by rfl⟩
    go_enter Tryd.func119, Tryd.ntmps119
    go_wp2
    go_region
    go_wp2_with (go_at_call 116; refine (HT.out _).mono ?_; rintro e w' ⟨rfl, hb⟩; have HB := Aside0.mk (HFIN.out _ hb); clear hb)
    go_ret
    exact ⟨by rw [HF.out]; rfl, HB.out⟩
  | true =>
    by_cases h1 : cols = 0
    · subst h1
      by_cases h2 : n = 0
      · subst h2
        have HF : Aside0 (shT true 0 0 0 = true) := ⟨by rfl⟩
        go_enter Tryd.func119, Tryd.ntmps119
        go_wp2
        go_region
        go_wp2_with (go_at_call 116; refine (HT.out _).mono ?_; rintro e w' ⟨rfl, hb⟩; have b1 := blk_below (blk_drew (blk_alloc (blk_new w _) _)) hb; have b2 := blk_below (blk_drew (blk_new (w.alloc _) _)) hb; have q2 := blk_cell b1 2; have q3 := blk_cell b1 3; have q4 := blk_cell b2 2; have HB := Aside0.mk (HFIN.out _ hb); clear hb b1 b2; simp at q2 q3 q4)
        go_ret
        exact ⟨by rw [HF.out]; rfl, HB.out⟩
      · have h2b : ((n : Int) == 0) = false := by simp; omega
        have HF : Aside0 (shT true 0 n 0 = false) := ⟨by unfold shT; simp [h2]⟩
        go_enter Tryd.func119, Tryd.ntmps119
        go_wp2
        go_region
        go_wp2_with (go_at_call 116; refine (HT.out _).mono ?_; rintro e w' ⟨rfl, hb⟩; have b1 := blk_below (blk_drew (blk_alloc (blk_new w _) _)) hb; have b2 := blk_below (blk_drew (blk_new (w.alloc _) _)) hb; have q2 := blk_cell b1 2; have q3 := blk_cell b1 3; have q4 := blk_cell b2 2; have HB := Aside0.mk (HFIN.out _ hb); clear hb b1 b2; simp at q2 q3 q4)
        go_ret
        exact ⟨by rw [HF.out]; rfl, HB.out⟩
    · have h1b : (cols == 0) = false := by simpa using h1
      have HF : Aside0 (shT true cols n 0 = false) := ⟨by unfold shT; simp [h1]⟩
      go_enter Tryd.func119, Tryd.ntmps119
      go_wp2
      go_region
      go_wp2_with (go_at_call 116; refine (HT.out _).mono ?_; rintro e w' ⟨rfl, hb⟩; have b1 := blk_below (blk_drew (blk_alloc (blk_new w _) _)) hb; have b2 := blk_below (blk_drew (blk_new (w.alloc _) _)) hb; have q2 := blk_cell b1 2; have q3 := blk_cell b1 3; have q4 := blk_cell b2 2; have HB := Aside0.mk (HFIN.out _ hb); clear hb b1 b2; simp at q2 q3 q4)
      go_ret
      exact ⟨by rw [HF.out]; rfl, HB.out⟩
end Go.Proofs.YtagkhoeidjlahaaDoor.G
namespace Go.Proofs.YtagkhoeidjlahaaDoor.G
open Go.RowKit Go.Proofs.YtagkhoeidjlahaaDoorW.PrintWords Go.Proofs.YtagkhoeidjlahaaDoorW.PrintLast Go.Proofs.YtagkhoeidjlahaaDoorW.PrintMore
attribute [local go_sem] max2_int min2_int max_two min_two max_three min_three max_four min_four
set_option linter.unusedVariables false
set_option linter.unusedSimpArgs false
set_option maxHeartbeats 4000000 in
set_option maxRecDepth 100000 in
theorem shape5 (s : ByteArray) (cols : Int) (A : Option Addr) (n c g gf : Nat) (left : Int) (b : Bool) (w : World) (hn : n ≤ 9223372036854775807)
    (hg : w.heap[g]? = some (.cells #[.slice (some ⟨gf, 0, none⟩) 13 13, .int .i64 left] 103 (0, 0))) (hf : w.heap[gf]? = some (.cells formCells 113 (0, 0)))
    (ht : ∀ W, Calls Tryd.prog 113 #[.string s] W fun e W' => e = .returned (.bool b) ∧ Below W.heap.size W W') :
    Calls Tryd.prog 119 #[.pointer (some ⟨g, 0, none⟩), .agg #[.int .i64 5, .string s, .int .i64 cols, .slice A n c]] w fun e w' => e = .returned (.bool (shT b cols n 2)) ∧ Below w.heap.size w w' := by
  have hc := blk_cell hg 0
  have hfc0 := blk_cell hf 15
  have hfc1 := blk_cell hf 16
  have hfc2 := blk_cell hf 17
  have hlg := blk_lt hg
  have hlf := blk_lt hf
  have hu113 := Tryd.underlying113
  have hu36 := Tryd.underlying36
  have hu103 := Tryd.underlying103
  simp [formCells, str, fnv] at hc hfc0 hfc1 hfc2
  have HT := Aside0.mk ht
  clear hg hf ht

  have hfin : ∀ w', Below ((w.alloc (.cells #[.int .i64 5, .string s, .int .i64 cols, .slice A n c] 36)).alloc (.cells #[.string ⟨#[102, 114, 97, 99]⟩, .func (.func 113) #[] #[], .int .i64 2] 113)).drew.heap.size ((w.alloc (.cells #[.int .i64 5, .string s, .int .i64 cols, .slice A n c] 36)).alloc (.cells #[.string ⟨#[102, 114, 97, 99]⟩, .func (.func 113) #[] #[], .int .i64 2] 113)).drew w' → Below w.heap.size w w' := fun w' hb => below_step (below_drew1 (below_alloc (below_alloc (Below.refl _ _) _) _)) hb
  have HFIN := Aside0.mk hfin
  clear hfin
  cases b with
  | false =>
    have HF : Aside0 (shT false cols n 2 = false) := ⟨by rfl⟩
    go_enter Tryd.func119, Tryd.ntmps119
    go_wp2
    go_region
    go_wp2_with (go_at_call 113; refine (HT.out _).mono ?_; rintro e w' ⟨rfl, hb⟩; have HB := Aside0.mk (HFIN.out _ hb); clear hb)
    go_ret
    exact ⟨by rw [HF.out]; rfl, HB.out⟩
  | true =>
    by_cases h1 : cols = 0
    · subst h1
      by_cases h2 : n = 2
      · subst h2
        have HF : Aside0 (shT true 0 2 2 = true) := ⟨by rfl⟩
        go_enter Tryd.func119, Tryd.ntmps119
        go_wp2
        go_region
        go_wp2_with (go_at_call 113; refine (HT.out _).mono ?_; rintro e w' ⟨rfl, hb⟩; have b1 := blk_below (blk_drew (blk_alloc (blk_new w _) _)) hb; have b2 := blk_below (blk_drew (blk_new (w.alloc _) _)) hb; have q2 := blk_cell b1 2; have q3 := blk_cell b1 3; have q4 := blk_cell b2 2; have HB := Aside0.mk (HFIN.out _ hb); clear hb b1 b2; simp at q2 q3 q4)
        go_ret
        exact ⟨by rw [HF.out]; rfl, HB.out⟩
      · have h2b : ((n : Int) == 2) = false := by simp; omega
        have HF : Aside0 (shT true 0 n 2 = false) := ⟨by unfold shT; simp [h2]⟩
        go_enter Tryd.func119, Tryd.ntmps119
        go_wp2
        go_region
        go_wp2_with (go_at_call 113; refine (HT.out _).mono ?_; rintro e w' ⟨rfl, hb⟩; have b1 := blk_below (blk_drew (blk_alloc (blk_new w _) _)) hb; have b2 := blk_below (blk_drew (blk_new (w.alloc _) _)) hb; have q2 := blk_cell b1 2; have q3 := blk_cell b1 3; have q4 := blk_cell b2 2; have HB := Aside0.mk (HFIN.out _ hb); clear hb b1 b2; simp at q2 q3 q4)
        go_ret
        exact ⟨by rw [HF.out]; rfl, HB.out⟩
    · have h1b : (cols == 0) = false := by simpa using h1
      have HF : Aside0 (shT true cols n 2 = false) := ⟨by unfold shT; simp [h1]⟩
      go_enter Tryd.func119, Tryd.ntmps119
      go_wp2
      go_region
      go_wp2_with (go_at_call 113; refine (HT.out _).mono ?_; rintro e w' ⟨rfl, hb⟩; have b1 := blk_below (blk_drew (blk_alloc (blk_new w _) _)) hb; have b2 := blk_below (blk_drew (blk_new (w.alloc _) _)) hb; have q2 := blk_cell b1 2; have q3 := blk_cell b1 3; have q4 := blk_cell b2 2; have HB := Aside0.mk (HFIN.out _ hb); clear hb b1 b2; simp at q2 q3 q4)
      go_ret
      exact ⟨by rw [HF.out]; rfl, HB.out⟩
set_option maxHeartbeats 4000000 in
set_option maxRecDepth 100000 in
theorem shape6 (s : ByteArray) (cols : Int) (A : Option Addr) (n c g gf : Nat) (left : Int) (b : Bool) (w : World) (hn : n ≤ 9223372036854775807)
    (hg : w.heap[g]? = some (.cells #[.slice (some ⟨gf, 0, none⟩) 13 13, .int .i64 left] 103 (0, 0))) (hf : w.heap[gf]? = some (.cells formCells 113 (0, 0)))
    (ht : ∀ W, Calls Tryd.prog 113 #[.string s] W fun e W' => e = .returned (.bool b) ∧ Below W.heap.size W W') :
    Calls Tryd.prog 119 #[.pointer (some ⟨g, 0, none⟩), .agg #[.int .i64 6, .string s, .int .i64 cols, .slice A n c]] w fun e w' => e = .returned (.bool (shT b cols n 2)) ∧ Below w.heap.size w w' := by
  have hc := blk_cell hg 0
  have hfc0 := blk_cell hf 18
  have hfc1 := blk_cell hf 19
  have hfc2 := blk_cell hf 20
  have hlg := blk_lt hg
  have hlf := blk_lt hf
  have hu113 := Tryd.underlying113
  have hu36 := Tryd.underlying36
  have hu103 := Tryd.underlying103
  simp [formCells, str, fnv] at hc hfc0 hfc1 hfc2
  have HT := Aside0.mk ht
  clear hg hf ht

  have hfin : ∀ w', Below ((w.alloc (.cells #[.int .i64 6, .string s, .int .i64 cols, .slice A n c] 36)).alloc (.cells #[.string ⟨#[114, 111, 111, 116]⟩, .func (.func 113) #[] #[], .int .i64 2] 113)).drew.heap.size ((w.alloc (.cells #[.int .i64 6, .string s, .int .i64 cols, .slice A n c] 36)).alloc (.cells #[.string ⟨#[114, 111, 111, 116]⟩, .func (.func 113) #[] #[], .int .i64 2] 113)).drew w' → Below w.heap.size w w' := fun w' hb => below_step (below_drew1 (below_alloc (below_alloc (Below.refl _ _) _) _)) hb
  have HFIN := Aside0.mk hfin
  clear hfin
  cases b with
  | false =>
    have HF : Aside0 (shT false cols n 2 = false) := ⟨by rfl⟩
    go_enter Tryd.func119, Tryd.ntmps119
    go_wp2
    go_region
    go_wp2_with (go_at_call 113; refine (HT.out _).mono ?_; rintro e w' ⟨rfl, hb⟩; have HB := Aside0.mk (HFIN.out _ hb); clear hb)
    go_ret
    exact ⟨by rw [HF.out]; rfl, HB.out⟩
  | true =>
    by_cases h1 : cols = 0
    · subst h1
      by_cases h2 : n = 2
      · subst h2
        have HF : Aside0 (shT true 0 2 2 = true) := ⟨by rfl⟩
        go_enter Tryd.func119, Tryd.ntmps119
        go_wp2
        go_region
        go_wp2_with (go_at_call 113; refine (HT.out _).mono ?_; rintro e w' ⟨rfl, hb⟩; have b1 := blk_below (blk_drew (blk_alloc (blk_new w _) _)) hb; have b2 := blk_below (blk_drew (blk_new (w.alloc _) _)) hb; have q2 := blk_cell b1 2; have q3 := blk_cell b1 3; have q4 := blk_cell b2 2; have HB := Aside0.mk (HFIN.out _ hb); clear hb b1 b2; simp at q2 q3 q4)
        go_ret
        exact ⟨by rw [HF.out]; rfl, HB.out⟩
      · have h2b : ((n : Int) == 2) = false := by simp; omega
        have HF : Aside0 (shT true 0 n 2 = false) := ⟨by unfold shT; simp [h2]⟩
        go_enter Tryd.func119, Tryd.ntmps119
        go_wp2
        go_region
        go_wp2_with (go_at_call 113; refine (HT.out _).mono ?_; rintro e w' ⟨rfl, hb⟩; have b1 := blk_below (blk_drew (blk_alloc (blk_new w _) _)) hb; have b2 := blk_below (blk_drew (blk_new (w.alloc _) _)) hb; have q2 := blk_cell b1 2; have q3 := blk_cell b1 3; have q4 := blk_cell b2 2; have HB := Aside0.mk (HFIN.out _ hb); clear hb b1 b2; simp at q2 q3 q4)
        go_ret
        exact ⟨by rw [HF.out]; rfl, HB.out⟩
    · have h1b : (cols == 0) = false := by simpa using h1
      have HF : Aside0 (shT true cols n 2 = false) := ⟨by unfold shT; simp [h1]⟩
      go_enter Tryd.func119, Tryd.ntmps119
      go_wp2
      go_region
      go_wp2_with (go_at_call 113; refine (HT.out _).mono ?_; rintro e w' ⟨rfl, hb⟩; have b1 := blk_below (blk_drew (blk_alloc (blk_new w _) _)) hb; have b2 := blk_below (blk_drew (blk_new (w.alloc _) _)) hb; have q2 := blk_cell b1 2; have q3 := blk_cell b1 3; have q4 := blk_cell b2 2; have HB := Aside0.mk (HFIN.out _ hb); clear hb b1 b2; simp at q2 q3 q4)
      go_ret
      exact ⟨by rw [HF.out]; rfl, HB.out⟩
set_option maxHeartbeats 4000000 in
set_option maxRecDepth 100000 in
theorem shape7 (s : ByteArray) (cols : Int) (A : Option Addr) (n c g gf : Nat) (left : Int) (b : Bool) (w : World) (hn : n ≤ 9223372036854775807)
    (hg : w.heap[g]? = some (.cells #[.slice (some ⟨gf, 0, none⟩) 13 13, .int .i64 left] 103 (0, 0))) (hf : w.heap[gf]? = some (.cells formCells 113 (0, 0)))
    (ht : ∀ W, Calls Tryd.prog 113 #[.string s] W fun e W' => e = .returned (.bool b) ∧ Below W.heap.size W W') :
    Calls Tryd.prog 119 #[.pointer (some ⟨g, 0, none⟩), .agg #[.int .i64 7, .string s, .int .i64 cols, .slice A n c]] w fun e w' => e = .returned (.bool (shT b cols n 2)) ∧ Below w.heap.size w w' := by
  have hc := blk_cell hg 0
  have hfc0 := blk_cell hf 21
  have hfc1 := blk_cell hf 22
  have hfc2 := blk_cell hf 23
  have hlg := blk_lt hg
  have hlf := blk_lt hf
  have hu113 := Tryd.underlying113
  have hu36 := Tryd.underlying36
  have hu103 := Tryd.underlying103
  simp [formCells, str, fnv] at hc hfc0 hfc1 hfc2
  have HT := Aside0.mk ht
  clear hg hf ht

  have hfin : ∀ w', Below ((w.alloc (.cells #[.int .i64 7, .string s, .int .i64 cols, .slice A n c] 36)).alloc (.cells #[.string ⟨#[115, 117, 98]⟩, .func (.func 113) #[] #[], .int .i64 2] 113)).drew.heap.size ((w.alloc (.cells #[.int .i64 7, .string s, .int .i64 cols, .slice A n c] 36)).alloc (.cells #[.string ⟨#[115, 117, 98]⟩, .func (.func 113) #[] #[], .int .i64 2] 113)).drew w' → Below w.heap.size w w' := fun w' hb => below_step (below_drew1 (below_alloc (below_alloc (Below.refl _ _) _) _)) hb
  have HFIN := Aside0.mk hfin
  clear hfin
  cases b with
  | false =>
    have HF : Aside0 (shT false cols n 2 = false) := ⟨by rfl⟩
    go_enter Tryd.func119, Tryd.ntmps119
    go_wp2
    go_region
    go_wp2_with (go_at_call 113; refine (HT.out _).mono ?_; rintro e w' ⟨rfl, hb⟩; have HB := Aside0.mk (HFIN.out _ hb); clear hb)
    go_ret
    exact ⟨by rw [HF.out]; rfl, HB.out⟩
  | true =>
    by_cases h1 : cols = 0
    · subst h1
      by_cases h2 : n = 2
      · subst h2
        have HF : Aside0 (shT true 0 2 2 = true) := ⟨by rfl⟩
        go_enter Tryd.func119, Tryd.ntmps119
        go_wp2
        go_region
        go_wp2_with (go_at_call 113; refine (HT.out _).mono ?_; rintro e w' ⟨rfl, hb⟩; have b1 := blk_below (blk_drew (blk_alloc (blk_new w _) _)) hb; have b2 := blk_below (blk_drew (blk_new (w.alloc _) _)) hb; have q2 := blk_cell b1 2; have q3 := blk_cell b1 3; have q4 := blk_cell b2 2; have HB := Aside0.mk (HFIN.out _ hb); clear hb b1 b2; simp at q2 q3 q4)
        go_ret
        exact ⟨by rw [HF.out]; rfl, HB.out⟩
      · have h2b : ((n : Int) == 2) = false := by simp; omega
        have HF : Aside0 (shT true 0 n 2 = false) := ⟨by unfold shT; simp [h2]⟩
        go_enter Tryd.func119, Tryd.ntmps119
        go_wp2
        go_region
        go_wp2_with (go_at_call 113; refine (HT.out _).mono ?_; rintro e w' ⟨rfl, hb⟩; have b1 := blk_below (blk_drew (blk_alloc (blk_new w _) _)) hb; have b2 := blk_below (blk_drew (blk_new (w.alloc _) _)) hb; have q2 := blk_cell b1 2; have q3 := blk_cell b1 3; have q4 := blk_cell b2 2; have HB := Aside0.mk (HFIN.out _ hb); clear hb b1 b2; simp at q2 q3 q4)
        go_ret
        exact ⟨by rw [HF.out]; rfl, HB.out⟩
    · have h1b : (cols == 0) = false := by simpa using h1
      have HF : Aside0 (shT true cols n 2 = false) := ⟨by unfold shT; simp [h1]⟩
      go_enter Tryd.func119, Tryd.ntmps119
      go_wp2
      go_region
      go_wp2_with (go_at_call 113; refine (HT.out _).mono ?_; rintro e w' ⟨rfl, hb⟩; have b1 := blk_below (blk_drew (blk_alloc (blk_new w _) _)) hb; have b2 := blk_below (blk_drew (blk_new (w.alloc _) _)) hb; have q2 := blk_cell b1 2; have q3 := blk_cell b1 3; have q4 := blk_cell b2 2; have HB := Aside0.mk (HFIN.out _ hb); clear hb b1 b2; simp at q2 q3 q4)
      go_ret
      exact ⟨by rw [HF.out]; rfl, HB.out⟩
end Go.Proofs.YtagkhoeidjlahaaDoor.G
namespace Go.Proofs.YtagkhoeidjlahaaDoor.G
open Go.RowKit Go.Proofs.YtagkhoeidjlahaaDoorW.PrintWords Go.Proofs.YtagkhoeidjlahaaDoorW.PrintLast Go.Proofs.YtagkhoeidjlahaaDoorW.PrintMore
attribute [local go_sem] max2_int min2_int max_two min_two max_three min_three max_four min_four
set_option linter.unusedVariables false
set_option linter.unusedSimpArgs false
set_option maxHeartbeats 4000000 in
set_option maxRecDepth 100000 in
theorem shape10 (s : ByteArray) (cols : Int) (A : Option Addr) (n c g gf : Nat) (left : Int) (b : Bool) (w : World) (hn : n ≤ 9223372036854775807)
    (hg : w.heap[g]? = some (.cells #[.slice (some ⟨gf, 0, none⟩) 13 13, .int .i64 left] 103 (0, 0))) (hf : w.heap[gf]? = some (.cells formCells 113 (0, 0)))
    (ht : ∀ W, Calls Tryd.prog 117 #[.string s] W fun e W' => e = .returned (.bool b) ∧ Below W.heap.size W W') :
    Calls Tryd.prog 119 #[.pointer (some ⟨g, 0, none⟩), .agg #[.int .i64 10, .string s, .int .i64 cols, .slice A n c]] w fun e w' => e = .returned (.bool (shT b cols n 1)) ∧ Below w.heap.size w w' := by
  have hc := blk_cell hg 0
  have hfc0 := blk_cell hf 30
  have hfc1 := blk_cell hf 31
  have hfc2 := blk_cell hf 32
  have hlg := blk_lt hg
  have hlf := blk_lt hf
  have hu113 := Tryd.underlying113
  have hu36 := Tryd.underlying36
  have hu103 := Tryd.underlying103
  simp [formCells, str, fnv] at hc hfc0 hfc1 hfc2
  have HT := Aside0.mk ht
  clear hg hf ht

  have hfin : ∀ w', Below ((w.alloc (.cells #[.int .i64 10, .string s, .int .i64 cols, .slice A n c] 36)).alloc (.cells #[.string ⟨#[97, 99, 99, 101, 110, 116]⟩, .func (.func 117) #[] #[], .int .i64 1] 113)).drew.heap.size ((w.alloc (.cells #[.int .i64 10, .string s, .int .i64 cols, .slice A n c] 36)).alloc (.cells #[.string ⟨#[97, 99, 99, 101, 110, 116]⟩, .func (.func 117) #[] #[], .int .i64 1] 113)).drew w' → Below w.heap.size w w' := fun w' hb => below_step (below_drew1 (below_alloc (below_alloc (Below.refl _ _) _) _)) hb
  have HFIN := Aside0.mk hfin
  clear hfin
  cases b with
  | false =>
    have HF : Aside0 (shT false cols n 1 = false) := ⟨by rfl⟩
    go_enter Tryd.func119, Tryd.ntmps119
    go_wp2
    go_region
    go_wp2_with (go_at_call 117; refine (HT.out _).mono ?_; rintro e w' ⟨rfl, hb⟩; have HB := Aside0.mk (HFIN.out _ hb); clear hb)
    go_ret
    exact ⟨by rw [HF.out]; rfl, HB.out⟩
  | true =>
    by_cases h1 : cols = 0
    · subst h1
      by_cases h2 : n = 1
      · subst h2
        have HF : Aside0 (shT true 0 1 1 = true) := ⟨by rfl⟩
        go_enter Tryd.func119, Tryd.ntmps119
        go_wp2
        go_region
        go_wp2_with (go_at_call 117; refine (HT.out _).mono ?_; rintro e w' ⟨rfl, hb⟩; have b1 := blk_below (blk_drew (blk_alloc (blk_new w _) _)) hb; have b2 := blk_below (blk_drew (blk_new (w.alloc _) _)) hb; have q2 := blk_cell b1 2; have q3 := blk_cell b1 3; have q4 := blk_cell b2 2; have HB := Aside0.mk (HFIN.out _ hb); clear hb b1 b2; simp at q2 q3 q4)
        go_ret
        exact ⟨by rw [HF.out]; rfl, HB.out⟩
      · have h2b : ((n : Int) == 1) = false := by simp; omega
        have HF : Aside0 (shT true 0 n 1 = false) := ⟨by unfold shT; simp [h2]⟩
        go_enter Tryd.func119, Tryd.ntmps119
        go_wp2
        go_region
        go_wp2_with (go_at_call 117; refine (HT.out _).mono ?_; rintro e w' ⟨rfl, hb⟩; have b1 := blk_below (blk_drew (blk_alloc (blk_new w _) _)) hb; have b2 := blk_below (blk_drew (blk_new (w.alloc _) _)) hb; have q2 := blk_cell b1 2; have q3 := blk_cell b1 3; have q4 := blk_cell b2 2; have HB := Aside0.mk (HFIN.out _ hb); clear hb b1 b2; simp at q2 q3 q4)
        go_ret
        exact ⟨by rw [HF.out]; rfl, HB.out⟩
    · have h1b : (cols == 0) = false := by simpa using h1
      have HF : Aside0 (shT true cols n 1 = false) := ⟨by unfold shT; simp [h1]⟩
      go_enter Tryd.func119, Tryd.ntmps119
      go_wp2
      go_region
      go_wp2_with (go_at_call 117; refine (HT.out _).mono ?_; rintro e w' ⟨rfl, hb⟩; have b1 := blk_below (blk_drew (blk_alloc (blk_new w _) _)) hb; have b2 := blk_below (blk_drew (blk_new (w.alloc _) _)) hb; have q2 := blk_cell b1 2; have q3 := blk_cell b1 3; have q4 := blk_cell b2 2; have HB := Aside0.mk (HFIN.out _ hb); clear hb b1 b2; simp at q2 q3 q4)
      go_ret
      exact ⟨by rw [HF.out]; rfl, HB.out⟩
set_option maxHeartbeats 4000000 in
set_option maxRecDepth 100000 in
theorem shape11 (s : ByteArray) (cols : Int) (A : Option Addr) (n c g gf : Nat) (left : Int) (b : Bool) (w : World) (hn : n ≤ 9223372036854775807)
    (hg : w.heap[g]? = some (.cells #[.slice (some ⟨gf, 0, none⟩) 13 13, .int .i64 left] 103 (0, 0))) (hf : w.heap[gf]? = some (.cells formCells 113 (0, 0)))
    (ht : ∀ W, Calls Tryd.prog 118 #[.string s] W fun e W' => e = .returned (.bool b) ∧ Below W.heap.size W W') :
    Calls Tryd.prog 119 #[.pointer (some ⟨g, 0, none⟩), .agg #[.int .i64 11, .string s, .int .i64 cols, .slice A n c]] w fun e w' => e = .returned (.bool (shT b cols n 1)) ∧ Below w.heap.size w w' := by
  have hc := blk_cell hg 0
  have hfc0 := blk_cell hf 33
  have hfc1 := blk_cell hf 34
  have hfc2 := blk_cell hf 35
  have hlg := blk_lt hg
  have hlf := blk_lt hf
  have hu113 := Tryd.underlying113
  have hu36 := Tryd.underlying36
  have hu103 := Tryd.underlying103
  simp [formCells, str, fnv] at hc hfc0 hfc1 hfc2
  have HT := Aside0.mk ht
  clear hg hf ht

  have hfin : ∀ w', Below ((w.alloc (.cells #[.int .i64 11, .string s, .int .i64 cols, .slice A n c] 36)).alloc (.cells #[.string ⟨#[102, 101, 110, 99, 101]⟩, .func (.func 118) #[] #[], .int .i64 1] 113)).drew.heap.size ((w.alloc (.cells #[.int .i64 11, .string s, .int .i64 cols, .slice A n c] 36)).alloc (.cells #[.string ⟨#[102, 101, 110, 99, 101]⟩, .func (.func 118) #[] #[], .int .i64 1] 113)).drew w' → Below w.heap.size w w' := fun w' hb => below_step (below_drew1 (below_alloc (below_alloc (Below.refl _ _) _) _)) hb
  have HFIN := Aside0.mk hfin
  clear hfin
  cases b with
  | false =>
    have HF : Aside0 (shT false cols n 1 = false) := ⟨by rfl⟩
    go_enter Tryd.func119, Tryd.ntmps119
    go_wp2
    go_region
    go_wp2_with (go_at_call 118; refine (HT.out _).mono ?_; rintro e w' ⟨rfl, hb⟩; have HB := Aside0.mk (HFIN.out _ hb); clear hb)
    go_ret
    exact ⟨by rw [HF.out]; rfl, HB.out⟩
  | true =>
    by_cases h1 : cols = 0
    · subst h1
      by_cases h2 : n = 1
      · subst h2
        have HF : Aside0 (shT true 0 1 1 = true) := ⟨by rfl⟩
        go_enter Tryd.func119, Tryd.ntmps119
        go_wp2
        go_region
        go_wp2_with (go_at_call 118; refine (HT.out _).mono ?_; rintro e w' ⟨rfl, hb⟩; have b1 := blk_below (blk_drew (blk_alloc (blk_new w _) _)) hb; have b2 := blk_below (blk_drew (blk_new (w.alloc _) _)) hb; have q2 := blk_cell b1 2; have q3 := blk_cell b1 3; have q4 := blk_cell b2 2; have HB := Aside0.mk (HFIN.out _ hb); clear hb b1 b2; simp at q2 q3 q4)
        go_ret
        exact ⟨by rw [HF.out]; rfl, HB.out⟩
      · have h2b : ((n : Int) == 1) = false := by simp; omega
        have HF : Aside0 (shT true 0 n 1 = false) := ⟨by unfold shT; simp [h2]⟩
        go_enter Tryd.func119, Tryd.ntmps119
        go_wp2
        go_region
        go_wp2_with (go_at_call 118; refine (HT.out _).mono ?_; rintro e w' ⟨rfl, hb⟩; have b1 := blk_below (blk_drew (blk_alloc (blk_new w _) _)) hb; have b2 := blk_below (blk_drew (blk_new (w.alloc _) _)) hb; have q2 := blk_cell b1 2; have q3 := blk_cell b1 3; have q4 := blk_cell b2 2; have HB := Aside0.mk (HFIN.out _ hb); clear hb b1 b2; simp at q2 q3 q4)
        go_ret
        exact ⟨by rw [HF.out]; rfl, HB.out⟩
    · have h1b : (cols == 0) = false := by simpa using h1
      have HF : Aside0 (shT true cols n 1 = false) := ⟨by unfold shT; simp [h1]⟩
      go_enter Tryd.func119, Tryd.ntmps119
      go_wp2
      go_region
      go_wp2_with (go_at_call 118; refine (HT.out _).mono ?_; rintro e w' ⟨rfl, hb⟩; have b1 := blk_below (blk_drew (blk_alloc (blk_new w _) _)) hb; have b2 := blk_below (blk_drew (blk_new (w.alloc _) _)) hb; have q2 := blk_cell b1 2; have q3 := blk_cell b1 3; have q4 := blk_cell b2 2; have HB := Aside0.mk (HFIN.out _ hb); clear hb b1 b2; simp at q2 q3 q4)
      go_ret
      exact ⟨by rw [HF.out]; rfl, HB.out⟩
end Go.Proofs.YtagkhoeidjlahaaDoor.G
namespace Go.Proofs.YtagkhoeidjlahaaDoor.G
open Go.RowKit Go.Proofs.YtagkhoeidjlahaaDoorW.PrintWords Go.Proofs.YtagkhoeidjlahaaDoorW.PrintLast Go.Proofs.YtagkhoeidjlahaaDoorW.PrintMore
attribute [local go_sem] max2_int min2_int max_two min_two max_three min_three max_four min_four
set_option linter.unusedVariables false
set_option linter.unusedSimpArgs false
set_option maxHeartbeats 4000000 in
set_option maxRecDepth 100000 in
theorem shape8 (s : ByteArray) (cols : Int) (A : Option Addr) (n c g gf : Nat) (left : Int) (b : Bool) (w : World) (hn : n ≤ 9223372036854775807)
    (hg : w.heap[g]? = some (.cells #[.slice (some ⟨gf, 0, none⟩) 13 13, .int .i64 left] 103 (0, 0))) (hf : w.heap[gf]? = some (.cells formCells 113 (0, 0)))
    (ht : ∀ W, Calls Tryd.prog 113 #[.string s] W fun e W' => e = .returned (.bool b) ∧ Below W.heap.size W W') :
    Calls Tryd.prog 119 #[.pointer (some ⟨g, 0, none⟩), .agg #[.int .i64 8, .string s, .int .i64 cols, .slice A n c]] w fun e w' => e = .returned (.bool (shT b cols n 2)) ∧ Below w.heap.size w w' := by
  have hc := blk_cell hg 0
  have hfc0 := blk_cell hf 24
  have hfc1 := blk_cell hf 25
  have hfc2 := blk_cell hf 26
  have hlg := blk_lt hg
  have hlf := blk_lt hf
  have hu113 := Tryd.underlying113
  have hu36 := Tryd.underlying36
  have hu103 := Tryd.underlying103
  simp [formCells, str, fnv] at hc hfc0 hfc1 hfc2
  have HT := Aside0.mk ht
  clear hg hf ht

  have hfin : ∀ w', Below ((w.alloc (.cells #[.int .i64 8, .string s, .int .i64 cols, .slice A n c] 36)).alloc (.cells #[.string ⟨#[115, 117, 112]⟩, .func (.func 113) #[] #[], .int .i64 2] 113)).drew.heap.size ((w.alloc (.cells #[.int .i64 8, .string s, .int .i64 cols, .slice A n c] 36)).alloc (.cells #[.string ⟨#[115, 117, 112]⟩, .func (.func 113) #[] #[], .int .i64 2] 113)).drew w' → Below w.heap.size w w' := fun w' hb => below_step (below_drew1 (below_alloc (below_alloc (Below.refl _ _) _) _)) hb
  have HFIN := Aside0.mk hfin
  clear hfin
  cases b with
  | false =>
    have HF : Aside0 (shT false cols n 2 = false) := ⟨by rfl⟩
    go_enter Tryd.func119, Tryd.ntmps119
    go_wp2
    go_region
    go_wp2_with (go_at_call 113; refine (HT.out _).mono ?_; rintro e w' ⟨rfl, hb⟩; have HB := Aside0.mk (HFIN.out _ hb); clear hb)
    go_ret
    exact ⟨by rw [HF.out]; rfl, HB.out⟩
  | true =>
    by_cases h1 : cols = 0
    · subst h1
      by_cases h2 : n = 2
      · subst h2
        have HF : Aside0 (shT true 0 2 2 = true) := ⟨by rfl⟩
        go_enter Tryd.func119, Tryd.ntmps119
        go_wp2
        go_region
        go_wp2_with (go_at_call 113; refine (HT.out _).mono ?_; rintro e w' ⟨rfl, hb⟩; have b1 := blk_below (blk_drew (blk_alloc (blk_new w _) _)) hb; have b2 := blk_below (blk_drew (blk_new (w.alloc _) _)) hb; have q2 := blk_cell b1 2; have q3 := blk_cell b1 3; have q4 := blk_cell b2 2; have HB := Aside0.mk (HFIN.out _ hb); clear hb b1 b2; simp at q2 q3 q4)
        go_ret
        exact ⟨by rw [HF.out]; rfl, HB.out⟩
      · have h2b : ((n : Int) == 2) = false := by simp; omega
        have HF : Aside0 (shT true 0 n 2 = false) := ⟨by unfold shT; simp [h2]⟩
        go_enter Tryd.func119, Tryd.ntmps119
        go_wp2
        go_region
        go_wp2_with (go_at_call 113; refine (HT.out _).mono ?_; rintro e w' ⟨rfl, hb⟩; have b1 := blk_below (blk_drew (blk_alloc (blk_new w _) _)) hb; have b2 := blk_below (blk_drew (blk_new (w.alloc _) _)) hb; have q2 := blk_cell b1 2; have q3 := blk_cell b1 3; have q4 := blk_cell b2 2; have HB := Aside0.mk (HFIN.out _ hb); clear hb b1 b2; simp at q2 q3 q4)
        go_ret
        exact ⟨by rw [HF.out]; rfl, HB.out⟩
    · have h1b : (cols == 0) = false := by simpa using h1
      have HF : Aside0 (shT true cols n 2 = false) := ⟨by unfold shT; simp [h1]⟩
      go_enter Tryd.func119, Tryd.ntmps119
      go_wp2
      go_region
      go_wp2_with (go_at_call 113; refine (HT.out _).mono ?_; rintro e w' ⟨rfl, hb⟩; have b1 := blk_below (blk_drew (blk_alloc (blk_new w _) _)) hb; have b2 := blk_below (blk_drew (blk_new (w.alloc _) _)) hb; have q2 := blk_cell b1 2; have q3 := blk_cell b1 3; have q4 := blk_cell b2 2; have HB := Aside0.mk (HFIN.out _ hb); clear hb b1 b2; simp at q2 q3 q4)
      go_ret
      exact ⟨by rw [HF.out]; rfl, HB.out⟩
set_option maxHeartbeats 4000000 in
set_option maxRecDepth 100000 in
theorem shape9 (s : ByteArray) (cols : Int) (A : Option Addr) (n c g gf : Nat) (left : Int) (b : Bool) (w : World) (hn : n ≤ 9223372036854775807)
    (hg : w.heap[g]? = some (.cells #[.slice (some ⟨gf, 0, none⟩) 13 13, .int .i64 left] 103 (0, 0))) (hf : w.heap[gf]? = some (.cells formCells 113 (0, 0)))
    (ht : ∀ W, Calls Tryd.prog 113 #[.string s] W fun e W' => e = .returned (.bool b) ∧ Below W.heap.size W W') :
    Calls Tryd.prog 119 #[.pointer (some ⟨g, 0, none⟩), .agg #[.int .i64 9, .string s, .int .i64 cols, .slice A n c]] w fun e w' => e = .returned (.bool (shT b cols n 3)) ∧ Below w.heap.size w w' := by
  have hc := blk_cell hg 0
  have hfc0 := blk_cell hf 27
  have hfc1 := blk_cell hf 28
  have hfc2 := blk_cell hf 29
  have hlg := blk_lt hg
  have hlf := blk_lt hf
  have hu113 := Tryd.underlying113
  have hu36 := Tryd.underlying36
  have hu103 := Tryd.underlying103
  simp [formCells, str, fnv] at hc hfc0 hfc1 hfc2
  have HT := Aside0.mk ht
  clear hg hf ht

  have hfin : ∀ w', Below ((w.alloc (.cells #[.int .i64 9, .string s, .int .i64 cols, .slice A n c] 36)).alloc (.cells #[.string ⟨#[98, 111, 116, 104]⟩, .func (.func 113) #[] #[], .int .i64 3] 113)).drew.heap.size ((w.alloc (.cells #[.int .i64 9, .string s, .int .i64 cols, .slice A n c] 36)).alloc (.cells #[.string ⟨#[98, 111, 116, 104]⟩, .func (.func 113) #[] #[], .int .i64 3] 113)).drew w' → Below w.heap.size w w' := fun w' hb => below_step (below_drew1 (below_alloc (below_alloc (Below.refl _ _) _) _)) hb
  have HFIN := Aside0.mk hfin
  clear hfin
  cases b with
  | false =>
    have HF : Aside0 (shT false cols n 3 = false) := ⟨by rfl⟩
    go_enter Tryd.func119, Tryd.ntmps119
    go_wp2
    go_region
    go_wp2_with (go_at_call 113; refine (HT.out _).mono ?_; rintro e w' ⟨rfl, hb⟩; have HB := Aside0.mk (HFIN.out _ hb); clear hb)
    go_ret
    exact ⟨by rw [HF.out]; rfl, HB.out⟩
  | true =>
    by_cases h1 : cols = 0
    · subst h1
      by_cases h2 : n = 3
      · subst h2
        have HF : Aside0 (shT true 0 3 3 = true) := ⟨by rfl⟩
        go_enter Tryd.func119, Tryd.ntmps119
        go_wp2
        go_region
        go_wp2_with (go_at_call 113; refine (HT.out _).mono ?_; rintro e w' ⟨rfl, hb⟩; have b1 := blk_below (blk_drew (blk_alloc (blk_new w _) _)) hb; have b2 := blk_below (blk_drew (blk_new (w.alloc _) _)) hb; have q2 := blk_cell b1 2; have q3 := blk_cell b1 3; have q4 := blk_cell b2 2; have HB := Aside0.mk (HFIN.out _ hb); clear hb b1 b2; simp at q2 q3 q4)
        go_ret
        exact ⟨by rw [HF.out]; rfl, HB.out⟩
      · have h2b : ((n : Int) == 3) = false := by simp; omega
        have HF : Aside0 (shT true 0 n 3 = false) := ⟨by unfold shT; simp [h2]⟩
        go_enter Tryd.func119, Tryd.ntmps119
        go_wp2
        go_region
        go_wp2_with (go_at_call 113; refine (HT.out _).mono ?_; rintro e w' ⟨rfl, hb⟩; have b1 := blk_below (blk_drew (blk_alloc (blk_new w _) _)) hb; have b2 := blk_below (blk_drew (blk_new (w.alloc _) _)) hb; have q2 := blk_cell b1 2; have q3 := blk_cell b1 3; have q4 := blk_cell b2 2; have HB := Aside0.mk (HFIN.out _ hb); clear hb b1 b2; simp at q2 q3 q4)
        go_ret
        exact ⟨by rw [HF.out]; rfl, HB.out⟩
    · have h1b : (cols == 0) = false := by simpa using h1
      have HF : Aside0 (shT true cols n 3 = false) := ⟨by unfold shT; simp [h1]⟩
      go_enter Tryd.func119, Tryd.ntmps119
      go_wp2
      go_region
      go_wp2_with (go_at_call 113; refine (HT.out _).mono ?_; rintro e w' ⟨rfl, hb⟩; have b1 := blk_below (blk_drew (blk_alloc (blk_new w _) _)) hb; have b2 := blk_below (blk_drew (blk_new (w.alloc _) _)) hb; have q2 := blk_cell b1 2; have q3 := blk_cell b1 3; have q4 := blk_cell b2 2; have HB := Aside0.mk (HFIN.out _ hb); clear hb b1 b2; simp at q2 q3 q4)
      go_ret
      exact ⟨by rw [HF.out]; rfl, HB.out⟩
end Go.Proofs.YtagkhoeidjlahaaDoor.G
namespace Go.Proofs.YtagkhoeidjlahaaDoor.G
open Go.RowKit Go.Proofs.YtagkhoeidjlahaaDoorW.PrintWords Go.Proofs.YtagkhoeidjlahaaDoorW.PrintLast Go.Proofs.YtagkhoeidjlahaaDoorW.PrintMore
attribute [local go_sem] max2_int min2_int max_two min_two max_three min_three max_four min_four
set_option linter.unusedVariables false
set_option linter.unusedSimpArgs false
def shapeF (k : Nat) (kd : Int) (s : ByteArray) (cols : Int) (n : Nat) : Option Bool :=
  if kd = 1 then some (shR s cols n) else if kd = 12 then some (shM s cols n)
  else if kd = 2 then (node_Symbol.f k s).bind fun b => some (shT b cols n 0)
  else if kd = 3 then (node_Number.f s).bind fun b => some (shT b cols n 0)
  else if kd = 4 then (node_printable.f k s).bind fun b => some (shT b cols n 0)
  else if kd = 10 then (node_accent.f k s).bind fun b => some (shT b cols n 1)
  else if kd = 11 then (node_fence.f s).bind fun b => some (shT b cols n 1)
  else if kd = 9 then some (shT (s.toList == []) cols n 3)
  else if 5 ≤ kd ∧ kd ≤ 8 then some (shT (s.toList == []) cols n 2)
  else some false
theorem shape_calls (k : Nat) (kd : Int) (s : ByteArray) (cols : Int) (A : Option Addr) (n c g gf : Nat) (left : Int) (b : Bool) (w : World) (hn : n ≤ 9223372036854775807)
    (hg : w.heap[g]? = some (.cells #[.slice (some ⟨gf, 0, none⟩) 13 13, .int .i64 left] 103 (0, 0))) (hf : w.heap[gf]? = some (.cells formCells 113 (0, 0))) (h : shapeF k kd s cols n = some b) :
    Calls Tryd.prog 119 #[.pointer (some ⟨g, 0, none⟩), .agg #[.int .i64 kd, .string s, .int .i64 cols, .slice A n c]] w fun e w' => e = .returned (.bool b) ∧ Below w.heap.size w w' := by
  have he : ∀ W, Calls Tryd.prog 113 #[.string s] W fun e W' => e = .returned (.bool (s.toList == [])) ∧ Below W.heap.size W W' := fun W => (node_empty.calls s _ W rfl).mono fun e W' ⟨h1, h2⟩ => ⟨h1, h2.below⟩
  unfold shapeF at h
  by_cases k1 : kd = 1
  · rw [if_pos k1] at h
    cases h
    subst k1
    exact shape1 s cols A n c g gf left w hn hg hf
  rw [if_neg k1] at h
  by_cases k12 : kd = 12
  · rw [if_pos k12] at h
    cases h
    subst k12
    exact shape12 s cols A n c g gf left w hn hg hf
  rw [if_neg k12] at h
  by_cases k2 : kd = 2
  · rw [if_pos k2] at h
    subst k2
    obtain ⟨t, ht, h⟩ := Option.bind_eq_some_iff.mp h
    cases h
    exact shape2 s cols A n c g gf left t w hn hg hf fun W => node_Symbol.calls k s t W ht
  rw [if_neg k2] at h
  by_cases k3 : kd = 3
  · rw [if_pos k3] at h
    subst k3
    obtain ⟨t, ht, h⟩ := Option.bind_eq_some_iff.mp h
    cases h
    exact shape3 s cols A n c g gf left t w hn hg hf fun W => node_Number.calls s t W ht
  rw [if_neg k3] at h
  by_cases k4 : kd = 4
  · rw [if_pos k4] at h
    subst k4
    obtain ⟨t, ht, h⟩ := Option.bind_eq_some_iff.mp h
    cases h
    exact shape4 s cols A n c g gf left t w hn hg hf fun W => (node_printable.calls k s t W ht).mono fun e W' ⟨h1, h2⟩ => ⟨h1, h2.below⟩
  rw [if_neg k4] at h
  by_cases k10 : kd = 10
  · rw [if_pos k10] at h
    subst k10
    obtain ⟨t, ht, h⟩ := Option.bind_eq_some_iff.mp h
    cases h
    exact shape10 s cols A n c g gf left t w hn hg hf fun W => node_accent.calls k s t W ht
  rw [if_neg k10] at h
  by_cases k11 : kd = 11
  · rw [if_pos k11] at h
    subst k11
    obtain ⟨t, ht, h⟩ := Option.bind_eq_some_iff.mp h
    cases h
    exact shape11 s cols A n c g gf left t w hn hg hf fun W => (node_fence.calls s t W ht).mono fun e W' ⟨h1, h2⟩ => ⟨h1, h2.below⟩
  rw [if_neg k11] at h
  by_cases k9 : kd = 9
  · rw [if_pos k9] at h
    cases h
    subst k9
    exact shape9 s cols A n c g gf left _ w hn hg hf he
  rw [if_neg k9] at h
  by_cases k58 : 5 ≤ kd ∧ kd ≤ 8
  · rw [if_pos k58] at h
    cases h
    have : kd = 5 ∨ kd = 6 ∨ kd = 7 ∨ kd = 8 := by omega
    rcases this with rfl | rfl | rfl | rfl
    · exact shape5 s cols A n c g gf left _ w hn hg hf he
    · exact shape6 s cols A n c g gf left _ w hn hg hf he
    · exact shape7 s cols A n c g gf left _ w hn hg hf he
    · exact shape8 s cols A n c g gf left _ w hn hg hf he
  rw [if_neg k58] at h
  cases h
  exact shapeOut kd s cols A n c g w (by omega)
end Go.Proofs.YtagkhoeidjlahaaDoor.G
namespace Go.Proofs.YtagkhoeidjlahaaDoor.G
open Go.RowKit Go.Proofs.YtagkhoeidjlahaaDoorW.PrintWords Go.Proofs.YtagkhoeidjlahaaDoorW.PrintLast Go.Proofs.YtagkhoeidjlahaaDoorW.PrintMore
attribute [local go_sem] max2_int min2_int max_two min_two max_three min_three max_four min_four
set_option linter.unusedVariables false
set_option linter.unusedSimpArgs false
def chkL (f : Int → S36 → Option (Bool × Int)) (row : Bool) : List S36 → Int → Option (Bool × Int)
  | [], l => some (true, l)
  | y :: ys, l => if (y.f0 == 1) == row then some (false, l) else (f l y).bind fun r => if r.1 = true then chkL f row ys r.2 else some (false, r.2)
def chk (k : Nat) : Nat → Int → S36 → Option (Bool × Int)
  | 0, l, _ => some (false, l - 1)
  | d + 1, l, x => if l - 1 < 0 then some (false, l - 1) else (shapeF k x.f0 x.f1 x.f2 x.f3.length).bind fun b => if b = true then chkL (chk k d) (x.f0 == 1) x.f3 (l - 1) else some (false, l - 1)
theorem chkL_le {f : Int → S36 → Option (Bool × Int)} (hf : ∀ l x l', f l x = some (true, l') → 0 ≤ l' ∧ l' ≤ l) (row : Bool) : ∀ (xs : List S36) (l l' : Int), 0 ≤ l → chkL f row xs l = some (true, l') → 0 ≤ l' ∧ l' ≤ l := by
  intro xs
  induction xs with
  | nil =>
    intro l l' h0 h
    simp [chkL] at h
    omega
  | cons y ys ih =>
    intro l l' h0 h
    rw [chkL] at h
    split at h
    · simp at h
    · obtain ⟨r, hr, h⟩ := Option.bind_eq_some_iff.mp h
      rcases r with ⟨rb, rl⟩
      cases rb with
      | false => simp at h
      | true =>
        simp at h
        have h1 := hf _ _ _ hr
        have h2 := ih _ _ h1.1 h
        omega
theorem chk_le (k : Nat) : ∀ (d : Nat) (l : Int) (x : S36) (l' : Int), chk k d l x = some (true, l') → 0 ≤ l' ∧ l' ≤ l := by
  intro d
  induction d with
  | zero => intro l x l' h; simp [chk] at h
  | succ d ih =>
    intro l x l' h
    rw [chk] at h
    split at h
    · simp at h
    · rename_i hl
      obtain ⟨b, hb, h⟩ := Option.bind_eq_some_iff.mp h
      cases b with
      | false => simp at h
      | true =>
        simp at h
        have := chkL_le ih _ _ _ _ (by omega) h
        omega
set_option maxHeartbeats 4000000 in
set_option maxRecDepth 100000 in
theorem check_calls (k : Nat) (w0 : World) (g gf : Nat) (hg0 : w0.heap.size ≤ g) (hgf0 : w0.heap.size ≤ gf) (hne : gf ≠ g) : ∀ (d : Nat), d ≤ 24 → ∀ (x : S36) (A : Option Addr) (c : Nat) (left : Int) (b : Bool) (l' : Int) (w : World),
    Kd.C k36 w0 A x.f3.length x.f3 → x.f3.length ≤ c → 0 ≤ left → left ≤ 1000 → Below w0.heap.size w0 w → w.heap[g]? = some (.cells #[.slice (some ⟨gf, 0, none⟩) 13 13, .int .i64 left] 103 (0, 0)) → w.heap[gf]? = some (.cells formCells 113 (0, 0)) → chk k d left x = some (b, l') →
    Calls Tryd.prog 100 #[.pointer (some ⟨g, 0, none⟩), .agg #[.int .i64 x.f0, .string x.f1, .int .i64 x.f2, .slice A x.f3.length c], .int .i64 d] w fun e w' => e = .returned (.bool b) ∧ Below w0.heap.size w0 w' ∧ w'.heap[g]? = some (.cells #[.slice (some ⟨gf, 0, none⟩) 13 13, .int .i64 l'] 103 (0, 0)) ∧ KeepBut w w' g none := by
  intro d
  induction d with
  | zero =>
    intro hd x A c left b l' w hr hc hl0 hl1 hB hg hf h
    simp only [chk, Option.some.injEq, Prod.mk.injEq] at h
    obtain ⟨rfl, rfl⟩ := h
    have q0 := (blk_cell hg 0).trans rfl
    have q1 := (blk_cell hg 1).trans rfl
    have qf := blk_frozen hg 1
    have hlg := blk_lt hg
    have hu36 := Tryd.underlying36
    have hu103 := Tryd.underlying103
    have HB1 := Aside0.mk (show Below w0.heap.size w0 ((w.setCell ⟨g, 1, none⟩ (.int .i64 (left - 1))).alloc (.cells #[.int .i64 x.f0, .string x.f1, .int .i64 x.f2, .slice A x.f3.length c] 36)) from below_alloc (below_set hB hg0) _)
    have HG1 := Aside0.mk (show ((w.setCell ⟨g, 1, none⟩ (.int .i64 (left - 1))).alloc (.cells #[.int .i64 x.f0, .string x.f1, .int .i64 x.f2, .slice A x.f3.length c] 36)).heap[g]? = some (.cells #[.slice (some ⟨gf, 0, none⟩) 13 13, .int .i64 (left - 1)] 103 (0, 0)) from blk_alloc (blk_put hg 1 _ rfl) _)
    have HK1 := Aside0.mk (show KeepBut w ((w.setCell ⟨g, 1, none⟩ (.int .i64 (left - 1))).alloc (.cells #[.int .i64 x.f0, .string x.f1, .int .i64 x.f2, .slice A x.f3.length c] 36)) g none from keep_alloc ((KeepBut.refl w g none).set_ 1 _) _)
    clear hg hf hr hB
    by_cases hl : left - 1 < 0
    · have hlb : decide (left - 1 < 0) = true := decide_eq_true hl
      go_enter Tryd.func100, Tryd.ntmps100
      go_wp2
      go_ret
      exact ⟨rfl, HB1.out, HG1.out, HK1.out⟩
    · have hlb : decide (left - 1 < 0) = false := decide_eq_false hl
      go_enter Tryd.func100, Tryd.ntmps100
      go_wp2
      go_ret
      exact ⟨rfl, HB1.out, HG1.out, HK1.out⟩
  | succ d ih =>
    intro hd x A c left b l' w hr hc hl0 hl1 hB hg hf h
    have q0 := (blk_cell hg 0).trans rfl
    have q1 := (blk_cell hg 1).trans rfl
    have qf := blk_frozen hg 1
    have hlg := blk_lt hg
    have hu36 := Tryd.underlying36
    have hu103 := Tryd.underlying103
    have HB1 := Aside0.mk (show Below w0.heap.size w0 ((w.setCell ⟨g, 1, none⟩ (.int .i64 (left - 1))).alloc (.cells #[.int .i64 x.f0, .string x.f1, .int .i64 x.f2, .slice A x.f3.length c] 36)) from below_alloc (below_set hB hg0) _)
    have HG1 := Aside0.mk (show ((w.setCell ⟨g, 1, none⟩ (.int .i64 (left - 1))).alloc (.cells #[.int .i64 x.f0, .string x.f1, .int .i64 x.f2, .slice A x.f3.length c] 36)).heap[g]? = some (.cells #[.slice (some ⟨gf, 0, none⟩) 13 13, .int .i64 (left - 1)] 103 (0, 0)) from blk_alloc (blk_put hg 1 _ rfl) _)
    have HK1 := Aside0.mk (show KeepBut w ((w.setCell ⟨g, 1, none⟩ (.int .i64 (left - 1))).alloc (.cells #[.int .i64 x.f0, .string x.f1, .int .i64 x.f2, .slice A x.f3.length c] 36)) g none from keep_alloc ((KeepBut.refl w g none).set_ 1 _) _)
    have HF1 := Aside0.mk (show ((w.setCell ⟨g, 1, none⟩ (.int .i64 (left - 1))).alloc (.cells #[.int .i64 x.f0, .string x.f1, .int .i64 x.f2, .slice A x.f3.length c] 36)).heap[gf]? = some (.cells formCells 113 (0, 0)) from blk_alloc (blk_far hf hne _) _)
    have HX1 := Aside0.mk (show ((w.setCell ⟨g, 1, none⟩ (.int .i64 (left - 1))).alloc (.cells #[.int .i64 x.f0, .string x.f1, .int .i64 x.f2, .slice A x.f3.length c] 36)).heap[w.heap.size]? = some (.cells #[.int .i64 x.f0, .string x.f1, .int .i64 x.f2, .slice A x.f3.length c] 36 (0, 0)) from by have := blk_new (w.setCell ⟨g, 1, none⟩ (.int .i64 (left - 1))) (.cells #[.int .i64 x.f0, .string x.f1, .int .i64 x.f2, .slice A x.f3.length c] 36); simpa using this)
    have HLF := Aside0.mk (blk_lt hf)
    have HLG := Aside0.mk hlg
    have HR := Aside0.mk hr
    have HC := Aside0.mk hc
    have hm := hr.2.1
    have HH := Aside0.mk h
    clear hg hf hr hB h
    by_cases hl : left - 1 < 0
    · have hlb : decide (left - 1 < 0) = true := decide_eq_true hl
      have H := HH.out
      rw [chk, if_pos hl] at H
      simp only [Option.some.injEq, Prod.mk.injEq] at H
      obtain ⟨rfl, rfl⟩ := H
      clear HH
      go_enter Tryd.func100, Tryd.ntmps100
      go_wp2
      go_ret
      exact ⟨rfl, HB1.out, HG1.out, HK1.out⟩
    · have hlb : decide (left - 1 < 0) = false := decide_eq_false hl
      have hdb : (((d : Nat) : Int) + 1 == 0) = false := by simp; omega
      have H := HH.out
      rw [chk, if_neg hl] at H
      obtain ⟨sb, hs, H⟩ := Option.bind_eq_some_iff.mp H
      have HS := Aside0.mk hs
      have H0 := Aside0.mk H
      clear HH H hs
      generalize hw1 : ((w.setCell ⟨g, 1, none⟩ (.int .i64 (left - 1))).alloc (.cells #[.int .i64 x.f0, .string x.f1, .int .i64 x.f2, .slice A x.f3.length c] 36)) = w1 at HB1 HG1 HK1 HF1 HX1
      have HW1 := Aside0.mk hw1
      clear hw1
      cases sb with
      | false =>
        have H := H0.out
        simp at H
        obtain ⟨rfl, rfl⟩ := H
        clear H0
        push_cast
        go_enter Tryd.func100, Tryd.ntmps100
        go_wp2_with fail
        rw [HW1.out]
        refine (shape_calls k x.f0 x.f1 x.f2 A x.f3.length c g gf (left - 1) false w1 hm HG1.out HF1.out HS.out).mono ?_
        rintro e w2 ⟨rfl, hb⟩
        have HB2 := Aside0.mk (below_step HB1.out hb)
        have HG2 := Aside0.mk (blk_below HG1.out hb)
        have HK2 := Aside0.mk (HK1.out.trans (KeepBut.of_below hb g none) (.inl rfl))
        clear hb
        go_wp2
        go_ret
        exact ⟨rfl, HB2.out, HG2.out, HK2.out⟩
      | true =>
        push_cast
        go_enter Tryd.func100, Tryd.ntmps100
        go_wp2_with fail
        rw [HW1.out]
        refine (shape_calls k x.f0 x.f1 x.f2 A x.f3.length c g gf (left - 1) true w1 hm HG1.out HF1.out HS.out).mono ?_
        rintro e w2 ⟨rfl, hb⟩
        have HB2 := Aside0.mk (below_step HB1.out hb)
        have HG2 := Aside0.mk (blk_below HG1.out hb)
        have HF2 := Aside0.mk (blk_below HF1.out hb)
        have HX2 := Aside0.mk (blk_below HX1.out hb)
        have HK2 := Aside0.mk (HK1.out.trans (KeepBut.of_below hb g none) (.inl rfl))
        have qx3 := (blk_cell HX2.out 3).trans rfl
        clear hb
        go_wp2_with fail
        have H1 := Aside0.mk (show chkL (chk k d) (x.f0 == 1) (x.f3.drop 0) (left - 1) = some (b, l') from by have := H0.out; simpa using this)
        clear H0 H
        go_loopg [34] x.f3.length (fun kq v34 wr => ∃ (i : Nat) (lc : Int), v34 = .int .i64 i ∧ Aside0 (kq + i = x.f3.length) ∧ Aside0 (chkL (chk k d) (x.f0 == 1) (x.f3.drop i) lc = some (b, l')) ∧ Aside0 (0 ≤ lc ∧ lc ≤ 1000) ∧ Aside0 (Below w0.heap.size w0 wr) ∧ Aside0 (wr.heap[g]? = some (.cells #[.slice (some ⟨gf, 0, none⟩) 13 13, .int .i64 lc] 103 (0, 0))) ∧ Aside0 (KeepBut w2 wr g none))
        case atStart => exact ⟨0, left - 1, rfl, ⟨rfl⟩, H1, ⟨hl, by omega⟩, HB2, HG2, ⟨KeepBut.refl _ _ _⟩⟩
        case round =>
          obtain ⟨i, lc, rfl, HI, HA, HL, HB3, HG3, HK3⟩ := hrel
          clear H1
          cases gk with
          | zero =>
            have hi : i = x.f3.length := by have := HI.out; omega
            subst hi
            have H := HA.out
            rw [List.drop_length, chkL] at H
            simp only [Option.some.injEq, Prod.mk.injEq] at H
            obtain ⟨rfl, rfl⟩ := H
            go_wp2
            go_ret
            exact ⟨rfl, HB3.out, HG3.out, HK2.out.trans HK3.out (.inl rfl)⟩
          | succ k1 =>
            have hi : i < x.f3.length := by have := HI.out; omega
            have hib : decide ((i : Int) < (x.f3.length : Int)) = true := decide_eq_true (by omega)
            obtain ⟨ad, A3, c3, e, hx0, hx1, hx2, hx3, hl3, hi3⟩ := at_T36 HR.out (i : Int) (by omega) (by omega)
            simp only [Int.toNat_natCast] at hx0 hx1 hx2 hx3
            obtain ⟨y, hy⟩ : ∃ y, y = rd_T36 x.f3 (i : Int) := ⟨_, rfl⟩
            rw [← hy] at hx0 hx1 hx2 hx3 hl3 hi3
            have hd : x.f3.drop i = y :: x.f3.drop (i + 1) := by rw [List.drop_eq_getElem_cons hi, hy]; simp [rd_T36, hi]
            have HY := Aside0.mk hd
            have HR3 := Aside0.mk hi3
            have HC3 := Aside0.mk hl3
            have H := HA.out
            rw [hd, chkL] at H
            have H2 := Aside0.mk H
            clear HA H hy hd hi3 hl3
            subst e
            replace hx0 := (HB3.out.cell (World.block_lt_of_cell? w0 _ hx0)).trans hx0
            replace hx1 := (HB3.out.cell (World.block_lt_of_cell? w0 _ hx1)).trans hx1
            replace hx2 := (HB3.out.cell (World.block_lt_of_cell? w0 _ hx2)).trans hx2
            replace hx3 := (HB3.out.cell (World.block_lt_of_cell? w0 _ hx3)).trans hx3
            have HX3 := Aside0.mk (HK3.out.blk HX2.out (by have := HLG.out; omega) (by simp))
            have HF3 := Aside0.mk (HK3.out.blk HF2.out hne (by simp))
            have qx0 : wr.cell? ⟨w.heap.size, 0, none⟩ = some (.int .i64 x.f0) := (blk_cell HX3.out 0).trans rfl
            have hws : w.heap.size < wr.heap.size := blk_lt HX3.out
            have hgs : g < wr.heap.size := blk_lt HG3.out
            by_cases hrow : ((y.f0 == 1) == (x.f0 == 1)) = true
            · have H := H2.out
              rw [if_pos hrow] at H
              simp only [Option.some.injEq, Prod.mk.injEq] at H
              obtain ⟨rfl, rfl⟩ := H
              clear H2
              go_wp2_with fail
              go_ret
              exact ⟨rfl, below_alloc HB3.out _, blk_alloc HG3.out _, keep_alloc (HK2.out.trans HK3.out (.inl rfl)) _⟩
            · have H := H2.out
              rw [if_neg hrow] at H
              replace hrow : ((y.f0 == 1) == (x.f0 == 1)) = false := by simpa using hrow
              obtain ⟨⟨rb, rl⟩, hr1, H⟩ := Option.bind_eq_some_iff.mp H
              have HR1 := Aside0.mk hr1
              have H3 := Aside0.mk H
              clear H2 H hr1
              have hL0 := HL.out.1
              have hL1 := HL.out.2
              cases rb with
              | false =>
                have H := H3.out
                simp at H
                obtain ⟨rfl, rfl⟩ := H
                clear H3
                go_wp2_with fail
                refine (ih (by omega) y A3 c3 lc false rl _ HR3.out HC3.out hL0 hL1 (below_alloc HB3.out _) (blk_alloc HG3.out _) (blk_alloc HF3.out _) HR1.out).mono ?_
                rintro e w4 ⟨rfl, hb4, hg4, hk4⟩
                have HB4 := Aside0.mk hb4
                have HG4 := Aside0.mk hg4
                have HK4 := Aside0.mk ((keep_alloc (HK2.out.trans HK3.out (.inl rfl)) _).trans hk4 (.inl rfl))
                clear hb4 hg4 hk4
                go_wp2
                go_ret
                exact ⟨rfl, HB4.out, HG4.out, HK4.out⟩
              | true =>
                have H4 := Aside0.mk (show chkL (chk k d) (x.f0 == 1) (x.f3.drop (i + 1)) rl = some (b, l') from by have := H3.out; simpa using this)
                have hle := chk_le k d lc y rl HR1.out
                have HLE := Aside0.mk (show 0 ≤ rl ∧ rl ≤ 1000 from ⟨hle.1, by omega⟩)
                clear H3 hle
                go_wp2_with fail
                refine (ih (by omega) y A3 c3 lc true rl _ HR3.out HC3.out hL0 hL1 (below_alloc HB3.out _) (blk_alloc HG3.out _) (blk_alloc HF3.out _) HR1.out).mono ?_
                rintro e w4 ⟨rfl, hb4, hg4, hk4⟩
                have HB4 := Aside0.mk hb4
                have HG4 := Aside0.mk hg4
                have HK4 := Aside0.mk ((keep_alloc HK3.out _).trans hk4 (.inl rfl))
                clear hb4 hg4 hk4
                go_wp2
                go_roundg k1
                case measure => omega
                case rel => exact ⟨i + 1, rl, by go_num, ⟨by have := HI.out; omega⟩, H4, HLE, HB4, HG4, HK4⟩
end Go.Proofs.YtagkhoeidjlahaaDoor.G
namespace Go.Proofs.YtagkhoeidjlahaaDoor.G
open Go.RowKit Go.Proofs.YtagkhoeidjlahaaDoorW.PrintWords Go.Proofs.YtagkhoeidjlahaaDoorW.PrintLast Go.Proofs.YtagkhoeidjlahaaDoorW.PrintMore
attribute [local go_sem] max2_int min2_int max_two min_two max_three min_three max_four min_four
set_option linter.unusedVariables false
set_option linter.unusedSimpArgs false
def node_Valid.f (k : Nat) (a0_0 : Int) (a0_1 : ByteArray) (a0_2 : Int) (l0_3 : List (S36)) : Option (Bool) := if a0_0 = 1 then (chk k 24 1000 ⟨a0_0, a0_1, a0_2, l0_3⟩).bind fun r => some r.1 else some false
set_option maxHeartbeats 4000000 in

theorem node_Valid.calls (k : Nat) (a0_0 : Int) (a0_1 : ByteArray) (a0_2 : Int) (A0_3 : Option Addr) (c0_3 : Nat) (l0_3 : List (S36)) (r : Bool) (w : World) (hr0_3 : Kd.C k36 w A0_3 l0_3.length l0_3) (hc0_3 : l0_3.length ≤ c0_3) (h : node_Valid.f k a0_0 a0_1 a0_2 l0_3 = some r) :
    Calls Tryd.prog 72 #[.agg #[.int .i64 a0_0, .string a0_1, .int .i64 a0_2, .slice A0_3 l0_3.length c0_3]] w fun e w' => e = .returned (.bool r) ∧ Below w.heap.size w w' := by
  have hu36 := Tryd.underlying36
  have hu103 := Tryd.underlying103
  unfold node_Valid.f at h
  have HR := Aside0.mk hr0_3
  have HC := Aside0.mk hc0_3
  clear hr0_3 hc0_3
  by_cases h1 : a0_0 = 1
  · rw [if_pos h1] at h
    subst h1
    obtain ⟨⟨b, l'⟩, hc, h⟩ := Option.bind_eq_some_iff.mp h
    cases h
    have HH := Aside0.mk hc
    clear hc
    go_enter Tryd.func72, Tryd.ntmps72
    go_wp2_with (go_at_call 99; refine (forms_calls _).mono ?_; rintro e w' ⟨rfl, rfl⟩)
    refine (check_calls k w (w.heap.size + 1 + 1) (w.heap.size + 1) (by omega) (by omega) (by omega) 24 (by omega) ⟨1, a0_1, a0_2, l0_3⟩ A0_3 c0_3 1000 b l' _ HR.out HC.out (by omega) (by omega) (below_alloc (below_alloc (below_alloc (Below.refl _ _) _) _) _) ?_ ?_ HH.out).mono ?_
    · have := blk_new ((w.alloc (.cells #[.int .i64 1, .string a0_1, .int .i64 a0_2, .slice A0_3 l0_3.length c0_3] 36)).alloc (.cells formCells 113)) (.cells #[.slice (some ⟨w.heap.size + 1, 0, none⟩) 13 13, .int .i64 1000] 103)
      simpa using this
    · refine blk_alloc ?_ _
      have := blk_new (w.alloc (.cells #[.int .i64 1, .string a0_1, .int .i64 a0_2, .slice A0_3 l0_3.length c0_3] 36)) (.cells formCells 113)
      simpa using this
    rintro e w1 ⟨rfl, hb, _, _⟩
    have HB := Aside0.mk hb
    clear hb
    go_wp2
    go_ret
    exact ⟨rfl, HB.out⟩
  · rw [if_neg h1] at h
    cases h
    have h1b : (a0_0 == 1) = false := by simpa using h1
    go_enter Tryd.func72, Tryd.ntmps72
    go_wp2_with (go_at_call 99; refine (forms_calls _).mono ?_; rintro e w' ⟨rfl, rfl⟩)
    go_ret
    exact ⟨rfl, below_alloc (below_alloc (below_alloc (Below.refl _ _) _) _) _⟩
end Go.Proofs.YtagkhoeidjlahaaDoor.G
namespace Go.Proofs.YtagkhoeidjlahaaDoor.G.Pure
open Go.Proofs.YtagkhoeidjlahaaDoorW.PrintWords Go.RowKit
set_option linter.unusedVariables false
set_option linter.unusedSimpArgs false
theorem ev_some {α : Type} {a : Option α} {r : α} (h : a = some r) : Ev (fun _ => a) r := ⟨0, fun _ _ => h⟩
theorem ev_now {α : Type} {a r : α} (h : a = r) : Ev (fun _ => some a) r := ⟨0, fun _ _ => by rw [h]⟩
theorem ev_if {α : Type} {c : Prop} [Decidable c] {g f : Nat → Option α} {r : α} (h : c → Ev g r) (k : ¬ c → Ev f r) : Ev (fun n => if c then g n else f n) r := by
  by_cases hc : c
  · obtain ⟨K, h⟩ := h hc; exact ⟨K, fun n hn => (if_pos hc).trans (h n hn)⟩
  · obtain ⟨K, k⟩ := k hc; exact ⟨K, fun n hn => (if_neg hc).trans (k n hn)⟩
theorem ev_bind {α β : Type} {g : Nat → Option α} {f : Nat → α → Option β} {a : α} {r : β} (h : Ev g a) (k : Ev (fun n => f n a) r) : Ev (fun n => (g n).bind (f n)) r := Ev.bind h k
def M : Nat := 9223372036854775807
theorem wr {n : Int} (h : -9223372036854775808 ≤ n ∧ n ≤ 9223372036854775807) : wrap64 n = n := by unfold wrap64; omega
def L (s : ByteArray) : List UInt8 := s.data.toList
theorem L_length (s : ByteArray) : (L s).length = s.size := rfl
theorem toList_L (s : ByteArray) : s.toList = L s := ByteArray.toList_eq s
theorem bt_L (s : ByteArray) (i : Nat) (h : i < s.size) : bt s i = (((L s)[i]'(by rw [L_length]; exact h)).toNat : Int) := by
  simp [bt, h, L]
  rfl
def letB (c : Int) : Bool := (decide (97 ≤ c) && decide (c ≤ 122)) || (decide (65 ≤ c) && decide (c ≤ 90))
theorem letter_eq (c : Int) : node_letter.f c = some (letB c) := by
  unfold node_letter.f letB
  simp only [ge_iff_le]
  by_cases h1 : 97 ≤ c <;> by_cases h2 : c ≤ 122 <;> by_cases h3 : 65 ≤ c <;> by_cases h4 : c ≤ 90 <;> simp [h1, h2, h3, h4] <;> omega
def hasB (s : ByteArray) (c : Int) : Bool := (L s).any fun b => (b.toNat : Int) == c
def inB (l : List ByteArray) (s : ByteArray) : Bool := l.any fun a => a.toList == s.toList
theorem rdOf_at (l : List ByteArray) (i : Nat) (h : i < l.length) : rdOf ByteArray.empty l i = l[i] := by simp [rdOf, h]
theorem Idx_l (l : List ByteArray) (s : ByteArray) (hl : l.length ≤ M) : ∀ (m i : Nat), l.length - i = m → ∃ j, Ev (fun k => slices_Index_string_string.l0 k l s l.length i) j ∧ decide (j ≥ 0) = ((l.drop i).any fun a => a.toList == s.toList) := by
  intro m
  induction m with
  | zero =>
    intro i hi
    refine ⟨-1, Ev.step (fun k => by rw [slices_Index_string_string.l0]) ?_, ?_⟩
    · refine ev_if (fun h => by omega) fun _ => ev_now rfl
    · rw [List.drop_eq_nil_of_le (by omega)]; rfl
  | succ m ih =>
    intro i hi
    unfold M at hl
    rw [List.drop_eq_getElem_cons (by omega), List.any_cons]
    by_cases h : s.toList = l[i].toList
    · refine ⟨i, Ev.step (fun k => by rw [slices_Index_string_string.l0]) ?_, by simp [h]⟩
      refine ev_if (fun _ => ?_) fun h => by omega
      refine ev_if (fun _ => ?_) fun h => by omega
      refine ev_if (fun _ => ?_) fun h => by omega
      rw [rdOf_at l i (by omega)]
      exact ev_if (fun _ => ev_now rfl) fun h' => absurd h h'
    · obtain ⟨j, hj, hd⟩ := ih (i + 1) (by omega)
      refine ⟨j, Ev.step (fun k => by rw [slices_Index_string_string.l0]) ?_, ?_⟩
      · refine ev_if (fun _ => ?_) fun h => by omega
        refine ev_if (fun _ => ?_) fun h => by omega
        refine ev_if (fun _ => ?_) fun h => by omega
        rw [rdOf_at l i (by omega)]
        refine ev_if (fun h' => absurd h' h) fun _ => ?_
        rw [wr (n := (i : Int) + 1) (by omega)]
        exact_mod_cast hj
      · rw [hd, beq_eq_false_iff_ne.2 (fun e => h e.symm), Bool.false_or]
theorem Contains_ev (l : List ByteArray) (s : ByteArray) (hl : l.length ≤ M) : Ev (fun k => slices_Contains_string_string.f k l s) (inB l s) := by
  obtain ⟨j, hj, hd⟩ := Idx_l l s hl l.length 0 rfl
  unfold slices_Contains_string_string.f slices_Index_string_string.f
  refine ev_bind (by simpa using hj) (ev_now ?_)
  rw [hd]; simp [inB]
def kws : List ByteArray := [⟨#[102, 114, 97, 99]⟩, ⟨#[114, 111, 111, 116]⟩, ⟨#[109, 97, 116, 114, 105, 120]⟩, ⟨#[102, 101, 110, 99, 101]⟩]
def accs : List ByteArray := [⟨#[104, 97, 116]⟩, ⟨#[98, 97, 114]⟩, ⟨#[118, 101, 99]⟩, ⟨#[100, 111, 116]⟩, ⟨#[116, 105, 108, 100, 101]⟩, ⟨#[99, 104, 101, 99, 107]⟩]
def plus : ByteArray := ⟨#[43, 45, 42, 47, 61, 60, 62, 44, 59, 58, 33, 124, 39, 63, 126, 64]⟩
theorem idx_ge : ∀ (l : List UInt8) (c : UInt8), decide (Lib.indexByte l c ≥ 0) = l.any fun b => (b.toNat : Int) == (c.toNat : Int)
  | [], c => by simp [Lib.indexByte]
  | b :: l, c => by
    rw [Lib.indexByte, List.any_cons, ← idx_ge l c]
    by_cases h : b = c
    · subst h; simp
    · have h2 : ((b.toNat : Int) == (c.toNat : Int)) = false := by
        rw [beq_eq_false_iff_ne]
        intro e
        exact h (UInt8.toNat_inj.1 (by omega))
      rw [h2, if_neg (by simpa using h), Bool.false_or]
      have := Lib.indexByte_ge l c
      split
      · rename_i h3
        have : Lib.indexByte l c = -1 := by simpa using h3
        rw [this]
      · rename_i h3
        have : Lib.indexByte l c ≠ -1 := by simpa using h3
        simp only [decide_eq_decide]
        omega
theorem one_byte {s : ByteArray} (h : s.size = 1) : ∃ c, L s = [c] ∧ bt s 0 = (c.toNat : Int) := by
  have hl := L_length s
  rw [h] at hl
  obtain ⟨c, hc⟩ := List.length_eq_one_iff.1 hl
  refine ⟨c, hc, ?_⟩
  have := bt_L s 0 (by omega)
  simp only [Int.ofNat_zero, hc] at this
  exact this
theorem Contains1 (a0 a1 : ByteArray) (h : a1.size = 1) : strings_Contains.f a0 a1 = some (hasB a0 (bt a1 0)) := by
  obtain ⟨c, hc, hb⟩ := one_byte h
  unfold strings_Contains.f strings_Index.f stringslite_Index.f
  rw [show a1.data.toList = [c] from hc, hb]
  simp only [Option.bind_some]
  rw [idx_ge]
  rfl
def allLet (l : List UInt8) : Bool := l.all fun b => letB (b.toNat : Int)
theorem nSym_l (s : ByteArray) (hs : s.size ≤ M) : ∀ (m i : Nat), s.size - i = m → Ev (fun k => node_Symbol.l0 k s s.size i) (allLet ((L s).drop i)) := by
  intro m
  induction m with
  | zero =>
    intro i hi
    refine Ev.step (fun k => by rw [node_Symbol.l0]) ?_
    refine ev_if (fun h => by omega) fun _ => ev_now ?_
    rw [List.drop_eq_nil_of_le (by rw [L_length]; omega)]; rfl
  | succ m ih =>
    intro i hi
    unfold M at hs
    refine Ev.step (fun k => by rw [node_Symbol.l0]) ?_
    refine ev_if (fun _ => ?_) fun h => by omega
    refine ev_if (fun _ => ?_) fun h => by omega
    refine ev_if (fun _ => ?_) fun h => by omega
    rw [allLet, List.drop_eq_getElem_cons (by rw [L_length]; omega), List.all_cons, bt_L s i (by omega), letter_eq]
    refine ev_bind (Ev.now _) ?_
    refine ev_if (fun h => ?_) fun h => ev_now ?_
    · rw [wr (n := (i : Int) + 1) (by omega), h, Bool.true_and]
      have := ih (i + 1) (by omega)
      exact_mod_cast this
    · rw [Bool.not_eq_true] at h; rw [h, Bool.false_and]
def symB (s : ByteArray) : Bool := if s.size = 1 then (letB (bt s 0) || hasB plus (bt s 0)) else allLet (L s) && (decide (2 ≤ s.size) && decide (s.size ≤ 16) && !inB kws s && !inB accs s)
theorem nSym_ev (s : ByteArray) (hs : s.size ≤ M) : Ev (fun k => node_Symbol.f k s) (symB s) := by
  unfold node_Symbol.f symB
  refine ev_if (fun h => ?_) fun h => ?_
  · refine ev_if (fun _ => ?_) fun h => by omega
    rw [letter_eq, if_pos (by omega : s.size = 1)]
    refine ev_bind (Ev.now _) ?_
    refine ev_if (fun h1 => ev_now ?_) fun h1 => ?_
    · rw [h1]; rfl
    · rw [Bool.not_eq_true] at h1
      have := Contains1 plus s (by omega)
      refine ev_bind (ev_some this) (ev_now ?_)
      rw [h1]; rfl
  · rw [if_neg (by omega : ¬ s.size = 1)]
    have j0t : Ev (fun k => node_Symbol.j0 k s true) false := Ev.step (fun k => by rw [node_Symbol.j0]) (ev_if (fun _ => ev_now rfl) fun h => absurd rfl h)
    refine ev_if (fun h1 => ?_) fun h1 => ?_
    · rw [decide_eq_false (show ¬ 2 ≤ s.size by omega)]; simpa using j0t
    · refine ev_if (fun h2 => ?_) fun h2 => ?_
      · rw [decide_eq_false (show ¬ s.size ≤ 16 by omega)]; simpa using j0t
      · rw [decide_eq_true (show 2 ≤ s.size by omega), decide_eq_true (show s.size ≤ 16 by omega)]
        have hacc : Ev (fun k => node_accent.f k s) (inB accs s) := by
          unfold node_accent.f
          exact ev_bind (Contains_ev accs s (by decide)) (Ev.now _)
        refine ev_bind hacc ?_
        refine ev_if (fun h3 => ?_) fun h3 => ?_
        · rw [h3]; simpa using j0t
        · rw [Bool.not_eq_true] at h3
          refine ev_bind (Contains_ev kws s (by decide)) ?_
          rw [h3]
          refine Ev.step (fun k => by rw [node_Symbol.j0]) ?_
          refine ev_if (fun h4 => ev_now ?_) fun h4 => ?_
          · rw [h4]; simp
          · rw [Bool.not_eq_true] at h4
            rw [h4]
            have := nSym_l s hs s.size 0 rfl
            simpa using this
def priB (l : List UInt8) : Bool := l.all fun b => decide (32 ≤ b.toNat) && decide (b.toNat ≤ 126)
theorem nPri_l (s : ByteArray) (hs : s.size ≤ M) : ∀ (m i : Nat), s.size - i = m → Ev (fun k => node_printable.l0 k s s.size i) (priB ((L s).drop i) && decide (s.size ≤ 200)) := by
  intro m
  induction m with
  | zero =>
    intro i hi
    refine Ev.step (fun k => by rw [node_printable.l0]) ?_
    refine ev_if (fun h => by omega) fun _ => ev_now ?_
    rw [List.drop_eq_nil_of_le (by rw [L_length]; omega), show priB [] = true from rfl, Bool.true_and, decide_eq_decide]
    omega
  | succ m ih =>
    intro i hi
    unfold M at hs
    refine Ev.step (fun k => by rw [node_printable.l0]) ?_
    refine ev_if (fun _ => ?_) fun h => by omega
    refine ev_if (fun _ => ?_) fun h => by omega
    refine ev_if (fun _ => ?_) fun h => by omega
    rw [priB, List.drop_eq_getElem_cons (by rw [L_length]; omega), List.all_cons, bt_L s i (by omega)]
    refine ev_if (fun h => ev_now ?_) fun h => ?_
    · rw [decide_eq_false (show ¬ 32 ≤ ((L s)[i]'(by rw [L_length]; omega)).toNat by omega)]; simp
    · refine ev_if (fun h2 => ev_now ?_) fun h2 => ?_
      · rw [decide_eq_false (show ¬ ((L s)[i]'(by rw [L_length]; omega)).toNat ≤ 126 by omega)]; simp
      · rw [decide_eq_true (show 32 ≤ ((L s)[i]'(by rw [L_length]; omega)).toNat by omega), decide_eq_true (show ((L s)[i]'(by rw [L_length]; omega)).toNat ≤ 126 by omega), Bool.true_and, Bool.true_and, wr (n := (i : Int) + 1) (by omega)]
        have := ih (i + 1) (by omega)
        exact_mod_cast this
end Go.Proofs.YtagkhoeidjlahaaDoor.G.Pure
namespace Go.Proofs.YtagkhoeidjlahaaDoor.G.Pure
open Go.Proofs.YtagkhoeidjlahaaDoorW.PrintWords Go.RowKit
set_option linter.unusedVariables false
set_option linter.unusedSimpArgs false
theorem dropWhile_bad {α : Type} {p : α → Bool} : ∀ {l : List α}, l.dropWhile p ≠ [] → ∃ b ∈ l.dropWhile p, p b = false
  | [], h => absurd rfl h
  | a :: l, h => by
    rw [List.dropWhile_cons] at h ⊢
    split at h
    · rename_i hp
      rw [if_pos hp]
      exact dropWhile_bad h
    · rename_i hp
      rw [if_neg hp]
      exact ⟨a, by simp, by simpa using hp⟩
theorem takeWhile_mem {α : Type} {p : α → Bool} {b : α} : ∀ {l : List α}, b ∈ l.takeWhile p → p b = true
  | [], h => by simp at h
  | a :: l, h => by
    rw [List.takeWhile_cons] at h
    split at h
    · rename_i hp
      rcases List.mem_cons.1 h with rfl | h
      · exact hp
      · exact takeWhile_mem h
    · simp at h
theorem dropWhile_all {α : Type} {p : α → Bool} : ∀ {l : List α}, (∀ b ∈ l, p b = true) → l.dropWhile p = []
  | [], _ => rfl
  | a :: l, h => by
    rw [List.dropWhile_cons, if_pos (h a (by simp))]
    exact dropWhile_all fun b hb => h b (by simp [hb])
theorem trimS_nil (l cs : List UInt8) : (Lib.trimS l cs).isEmpty = l.all (cs.contains ·) := by
  unfold Lib.trimS Lib.trimLeftS Lib.trimRightS
  by_cases h : l.all (cs.contains ·) = true
  · rw [h, dropWhile_all (l := l.reverse) (fun b hb => by simpa using List.all_eq_true.1 h b (by simpa using hb))]
    rfl
  · have hne : l.reverse.dropWhile (cs.contains ·) ≠ [] := by
      intro e
      refine h (List.all_eq_true.2 fun b hb => ?_)
      have := List.takeWhile_append_dropWhile (p := (cs.contains ·)) (l := l.reverse)
      rw [e, List.append_nil] at this
      have hb' : b ∈ l.reverse.takeWhile (cs.contains ·) := by rw [this]; simpa using hb
      exact takeWhile_mem hb'
    obtain ⟨b, hb, hp⟩ := dropWhile_bad hne
    have h2 : (l.reverse.dropWhile (cs.contains ·)).reverse.dropWhile (cs.contains ·) ≠ [] := by
      intro e
      have := List.takeWhile_append_dropWhile (p := (cs.contains ·)) (l := (l.reverse.dropWhile (cs.contains ·)).reverse)
      rw [e, List.append_nil] at this
      have hb' : b ∈ (l.reverse.dropWhile (cs.contains ·)).reverse.takeWhile (cs.contains ·) := by rw [this]; simpa using hb
      have := takeWhile_mem hb'
      rw [hp] at this
      cases this
    rw [Bool.not_eq_true] at h
    rw [h]
    cases hd : (l.reverse.dropWhile (cs.contains ·)).reverse.dropWhile (cs.contains ·) with
    | nil => exact absurd hd h2
    | cons a t => rfl
def digI (b : UInt8) : Bool := decide (48 ≤ b.toNat) && decide (b.toNat ≤ 57)
set_option maxRecDepth 100000 in
theorem dig_small : ∀ n < 256, ([48, 49, 50, 51, 52, 53, 54, 55, 56, 57] : List UInt8).contains (UInt8.ofNat n) = (decide (48 ≤ n) && decide (n ≤ 57)) := by decide
theorem dig_contains (b : UInt8) : ([48, 49, 50, 51, 52, 53, 54, 55, 56, 57] : List UInt8).contains b = digI b := by
  have := dig_small b.toNat b.toNat_lt
  rw [UInt8.ofNat_toNat] at this
  exact this
def digs (l : List UInt8) : Bool := !l.isEmpty && l.all digI
theorem digits_eq (a : ByteArray) (ha : a.size ≤ M) : node_digits.f a = some (digs (L a)) := by
  unfold node_digits.f strings_Trim.f digs
  rw [toList_L]
  by_cases h : L a = []
  · rw [if_pos h, h]; rfl
  · rw [if_neg h, if_pos ⟨ha, by decide, by decide⟩]
    simp only [Option.bind_some]
    rw [toList_L]
    have e : L ⟨(Lib.trimS a.data.toList (ByteArray.mk #[48, 49, 50, 51, 52, 53, 54, 55, 56, 57]).data.toList).toArray⟩ = Lib.trimS (L a) [48, 49, 50, 51, 52, 53, 54, 55, 56, 57] := by simp [L]
    rw [e]
    have h1 := trimS_nil (L a) [48, 49, 50, 51, 52, 53, 54, 55, 56, 57]
    have h2 : (L a).isEmpty = false := by simpa using h
    rw [h2]
    have h3 : ∀ t : List UInt8, (t == []) = t.isEmpty := fun t => by cases t <;> rfl
    rw [h3, h1]
    simp only [dig_contains]
    rfl
def numB (l : List UInt8) : Bool := decide (l.length ≤ 20) && (if 0 ≤ Lib.indexByte l 46 then digs (l.take (Lib.indexByte l 46).toNat) && digs (l.drop ((Lib.indexByte l 46).toNat + 1)) else digs l)
theorem idx_lt : ∀ (l : List UInt8) (c : UInt8), Lib.indexByte l c < l.length
  | [], c => by simp [Lib.indexByte]
  | b :: l, c => by
    rw [Lib.indexByte]
    have := idx_lt l c
    simp only [List.length_cons]
    split
    · omega
    · split <;> omega
theorem nNum_eq (a : ByteArray) (ha : a.size ≤ M) : node_Number.f a = some (numB (L a)) := by
  unfold node_Number.f numB
  rw [L_length]
  by_cases h20 : (a.size : Int) > 20
  · rw [if_pos h20, decide_eq_false (show ¬ a.size ≤ 20 by omega)]; rfl
  · rw [if_neg h20, decide_eq_true (show a.size ≤ 20 by omega), Bool.true_and]
    unfold strings_Cut.f stringslite_Cut.f stringslite_Index.f
    rw [show (ByteArray.mk #[46]).data.toList = [46] from rfl]
    simp only [Option.bind_some, show a.data.toList = L a from rfl]
    have hlt := idx_lt (L a) 46
    rw [L_length] at hlt
    have h1 : ((ByteArray.mk #[46]).size : Int) = 1 := rfl
    by_cases hi : Lib.indexByte (L a) 46 ≥ 0
    · rw [if_pos hi, if_pos hi, if_pos (by omega), h1, wr (n := Lib.indexByte (L a) 46 + 1) (by omega), if_pos (by omega), if_pos (by omega), if_pos hi]
      simp only [Option.bind_some]
      have e0 : L (a.extract 0 (Lib.indexByte (L a) 46).toNat) = (L a).take (Lib.indexByte (L a) 46).toNat := by
        simp [L]
      have e1 : L (a.extract (Lib.indexByte (L a) 46 + 1).toNat a.size) = (L a).drop ((Lib.indexByte (L a) 46).toNat + 1) := by
        have := Lib.extract_to_end a (Lib.indexByte (L a) 46 + 1).toNat
        rw [show (Lib.indexByte (L a) 46 + 1).toNat = (Lib.indexByte (L a) 46).toNat + 1 by omega] at this ⊢
        exact this
      have s0 : (a.extract 0 (Lib.indexByte (L a) 46).toNat).size ≤ M := by
        rw [← L_length, e0, List.length_take, L_length]; unfold M at *; omega
      have s1 : (a.extract (Lib.indexByte (L a) 46 + 1).toNat a.size).size ≤ M := by
        rw [← L_length, e1, List.length_drop, L_length]; unfold M at *; omega
      rw [digits_eq _ s0, e0]
      simp only [Option.bind_some]
      cases hd : digs ((L a).take (Lib.indexByte (L a) 46).toNat) with
      | false => simp
      | true =>
        rw [if_pos rfl, if_pos trivial, digits_eq _ s1, e1]
        simp
    · rw [if_neg hi, if_neg hi]
      simp only [Option.bind_some]
      rw [digits_eq a ha]
      simp only [Option.bind_some]
      cases hd : digs (L a) <;> simp
def dlm : ByteArray := ⟨#[40, 41, 91, 93, 123, 125, 124, 60, 62, 47, 46]⟩
def dlm2 : ByteArray := ⟨#[40, 41, 91, 93, 123, 125, 60, 62, 47, 124, 46]⟩
theorem dlm_eq (c : Int) : hasB dlm2 c = hasB dlm c := by
  unfold hasB
  exact List.Perm.any_eq (show (L dlm2).Perm (L dlm) from by decide)
def fenB (s : ByteArray) : Bool := decide (s.size = 2) && hasB dlm (bt s 0) && hasB dlm (bt s 1)
theorem nFen_eq (s : ByteArray) : node_fence.f s = some (fenB s) := by
  unfold node_fence.f fenB
  by_cases h : (s.size : Int) = 2
  · have h2 : s.size = 2 := by omega
    rw [if_pos h, if_pos (by omega), if_pos (by omega), decide_eq_true h2]
    have l0 : L (s.extract 0 1) = (L s).take 1 := by simp [L]
    have l1 : L (s.extract 1 s.size) = (L s).drop 1 := Lib.extract_to_end s 1
    have hL : (L s).length = 2 := by rw [L_length]; exact h2
    have z0 : (s.extract 0 1).size = 1 := by rw [← L_length, l0, List.length_take]; omega
    have z1 : (s.extract 1 s.size).size = 1 := by rw [← L_length, l1, List.length_drop]; omega
    have b0 : bt (s.extract 0 1) 0 = bt s 0 := by
      have e0 := bt_L (s.extract 0 1) 0 (by omega)
      have e1 := bt_L s 0 (by omega)
      simp only [Int.ofNat_zero, l0] at e0
      simp only [Int.ofNat_zero] at e1
      rw [e0, e1]
      simp
    have b1 : bt (s.extract 1 s.size) 0 = bt s 1 := by
      have e0 := bt_L (s.extract 1 s.size) 0 (by omega)
      have e1 := bt_L s 1 (by omega)
      simp only [Int.ofNat_zero, l1] at e0
      rw [e0]
      refine Eq.trans ?_ e1.symm
      simp
    rw [show (⟨#[40, 41, 91, 93, 123, 125, 60, 62, 47, 124, 46]⟩ : ByteArray) = dlm2 from rfl, Contains1 _ _ z0, b0, Contains1 _ _ z1, b1, dlm_eq, dlm_eq]
    simp only [Option.bind_some]
    cases hasB dlm (bt s 0) <;> simp
  · rw [if_neg h, decide_eq_false (show ¬ s.size = 2 by omega)]; simp
end Go.Proofs.YtagkhoeidjlahaaDoor.G.Pure
namespace Go.Proofs.YtagkhoeidjlahaaDoor.G.Pure
open Go.Proofs.YtagkhoeidjlahaaDoorW.PrintWords Go.RowKit
set_option linter.unusedVariables false
set_option linter.unusedSimpArgs false
def shp (kd : Int) (s : ByteArray) (cols : Int) (n : Nat) : Bool :=
  if kd = 1 then shR s cols n else if kd = 12 then shM s cols n
  else if kd = 2 then shT (symB s) cols n 0
  else if kd = 3 then shT (numB (L s)) cols n 0
  else if kd = 4 then shT (priB (L s) && decide (s.size ≤ 200)) cols n 0
  else if kd = 10 then shT (inB accs s) cols n 1
  else if kd = 11 then shT (fenB s) cols n 1
  else if kd = 9 then shT (s.toList == []) cols n 3
  else if 5 ≤ kd ∧ kd ≤ 8 then shT (s.toList == []) cols n 2
  else false
theorem nAcc_ev (s : ByteArray) : Ev (fun k => node_accent.f k s) (inB accs s) := by
  unfold node_accent.f
  exact ev_bind (Contains_ev accs s (by decide)) (Ev.now _)
theorem nPri_ev (s : ByteArray) (hs : s.size ≤ M) : Ev (fun k => node_printable.f k s) (priB (L s) && decide (s.size ≤ 200)) := by
  have := nPri_l s hs s.size 0 rfl
  simpa [node_printable.f] using this
theorem shape_ev (kd : Int) (s : ByteArray) (cols : Int) (n : Nat) (hs : s.size ≤ M) : Ev (fun k => shapeF k kd s cols n) (shp kd s cols n) := by
  unfold shapeF shp
  by_cases h1 : kd = 1
  · simp only [h1, if_true]; exact Ev.now _
  by_cases h12 : kd = 12
  · simp only [h1, h12, if_true, if_false]; exact Ev.now _
  by_cases h2 : kd = 2
  · simp only [h1, h12, h2, if_true, if_false]; exact ev_bind (nSym_ev s hs) (Ev.now _)
  by_cases h3 : kd = 3
  · simp only [h1, h12, h2, h3, if_true, if_false]; exact ev_bind (ev_some (nNum_eq s hs)) (Ev.now _)
  by_cases h4 : kd = 4
  · simp only [h1, h12, h2, h3, h4, if_true, if_false]; exact ev_bind (nPri_ev s hs) (Ev.now _)
  by_cases h10 : kd = 10
  · simp only [h1, h12, h2, h3, h4, h10, if_true, if_false]; exact ev_bind (nAcc_ev s) (Ev.now _)
  by_cases h11 : kd = 11
  · simp only [h1, h12, h2, h3, h4, h10, h11, if_true, if_false]; exact ev_bind (ev_some (nFen_eq s)) (Ev.now _)
  simp only [h1, h12, h2, h3, h4, h10, h11, if_false]
  by_cases h9 : kd = 9
  · simp only [h9, if_true]; exact Ev.now _
  simp only [h9, if_false]
  by_cases h5 : 5 ≤ kd ∧ kd ≤ 8
  · simp only [h5, and_self, if_true]; exact Ev.now _
  · simp only [h5, if_false]; exact Ev.now _
end Go.Proofs.YtagkhoeidjlahaaDoor.G.Pure
namespace Go.Proofs.YtagkhoeidjlahaaDoor.G
open Go.RowKit Go.Proofs.YtagkhoeidjlahaaDoorW.PrintWords Go.Proofs.YtagkhoeidjlahaaDoorW.PrintLast Go.Proofs.YtagkhoeidjlahaaDoorW.PrintMore
attribute [local go_sem] max2_int min2_int max_two min_two max_three min_three max_four min_four
set_option linter.unusedVariables false
set_option linter.unusedSimpArgs false
def slices_Clone_int_int.f (l0 : List Int) : Option (List Int) := if l0.length < 17592186044416 then some l0 else none
set_option maxHeartbeats 4000000 in

theorem slices_Clone_int_int.calls (A0 : Option Addr) (c0 : Nat) (l0 : List Int) (r : List Int) (w : World) (hr0 : Kd.C (Kd.int .i64) w A0 l0.length l0) (hc0 : l0.length ≤ c0) (h : slices_Clone_int_int.f l0 = some r) :
    Calls Tryd.prog 81 #[.slice A0 l0.length c0] w fun e w' => ∃ v0_ : Value, e = .returned (v0_) ∧ Kd.R (Kd.int .i64) 3 w' w.heap.size (fun _ => True) v0_ r ∧ Below w.heap.size w w' := by
  unfold slices_Clone_int_int.f at h
  split at h
  · rename_i hlt
    obtain rfl := Option.some.inj h
    clear h
    have HB := Aside0.mk (Below.refl w.heap.size w)
    have HL := Aside0.mk hlt
    have HR := Aside0.mk hr0
    have HC := Aside0.mk hc0
    rcases A0 with _ | ad
    · have hl : l0 = [] := by
        rcases l0 with _ | ⟨x, l⟩
        · rfl
        · obtain ⟨ad, he, _⟩ := hr0.2.2 (by simp)
          cases he
      subst hl
      clear hr0 hc0 hlt
      have heq := fun W => Lib.run_eql_slice_nil (P := Tryd.prog) W 26 3 none 0 c0 0 0 Tryd.underlying26
      go_enter Tryd.func81, Tryd.ntmps81
      go_wp2
      go_ret
      exact ⟨_, rfl, Kd.R_nil _ _ _ _ _, Below.refl _ _⟩
    · have heq := fun W => Lib.run_eql_slice_nil (P := Tryd.prog) W 26 3 (some ad) l0.length c0 0 0 Tryd.underlying26
      clear hr0 hc0 hlt
      go_enter Tryd.func81, Tryd.ntmps81
      go_wp2_with (first | ((with_reducible refine gate_dst (N := 5) rfl ?_); refine Kd.R_lit (Kd.int .i64) _ 3 ?hg (N := 5) ?hd (xs := ([] : List Int)) (inner := []) (ok := fun _ => True) (okp := fun _ => True) ?hr ?hp (fun _ hk => hk) trivial (Below.refl _ _) (Nat.le_refl _) (by simp) ?_; (case hd => rfl); (case hg => rfl); (case hr => first | (go_simp; done) | (go_simp; rfl)); (case hp => exact (Reps.none _ _)); intro v5 w5 ho hb hg_ hnew_; have HO := Aside0.mk ho; have HB1 := Aside0.mk hb; clear ho hb hg_ hnew_) | ((with_reducible refine gate_builtin (b := .append) (xs := #[.tmp 5, .tmp 6]) rfl ?_); at_builtin; refine Kd.R_append_rows (Kd.int .i64) (w0 := w) w.heap.size rfl (.tmp 5) (.tmp 6) 26 3 (.int .i64 0) 8 rfl Tryd.underlying26 info3 rfl (by decide) (by omega) v5 [] l0 _ _ _ (fun k_ => True) (fun _ => False) rfl rfl ?aO ?aR (fun _ _ h => h) (fun _ h => h.elim) (fun _ _ => trivial) ?aB ?aS ?aL ?_; (case aR => exact Kd.C_below HR.out HB1.out); (case aB => exact HB1.out); (case aO => exact HO.out); (case aS => exact HB1.out.size); (case aL => have := HL.out; simp; omega); intro v6 w6 ho hb hg hat; have HO2 := Aside0.mk ho; have HB2 := Aside0.mk hb; clear ho hb hg hat))
      go_ret
      exact ⟨_, rfl, by simpa using HO2.out, HB2.out⟩
  · cases h
end Go.Proofs.YtagkhoeidjlahaaDoor.G
