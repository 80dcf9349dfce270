-- Written by pack2.py: this session's texts and the printer's, pruned.
import Derived.Shelf.Strings.Search1
import Derived.Shelf.Strings.Search2
import Derived.Shelf.Strings.SlTrimAscii
import Derived.Test.YtagkhoeidjlahaaDoorProg
import Derived.Test.YtagkhoeidjlahaaDoorCSe1
import Derived.Below
import Derived.Deep.Draws
import Derived.Deep.AppendLies
import Derived.Maps.AppendAt
import Derived.OwnWalk
import Derived.Laws.BytesArg
import Derived.Laws.MakeOwn
import Derived.Laws.OwnMore
import Derived.Deep.OwnRows
import Derived.Tactics
import Derived.Lib.ConvBytes
import Derived.Laws.Slices
import Derived.WalkKit
import Derived.KernelRfl
import Derived.RowKit3
import Derived.Deep.LoopGhost
import Derived.Deep.QuietTactic
import Derived.BigQuiet
import Derived.WideLaws
import Derived.Deep.DeepCutAuto
import Derived.Deep.CutBlock
import Derived.Deep.RegionHeld3
import Derived.Laws.Rows
import Derived.Lib.AppendStr
import Derived.ArgAppend
import Derived.Laws.IdiomCopy
import Derived.OrdersHeld
import Derived.Laws.BitsLemmas
import Derived.RowKit
import Derived.Lib.SliceRun
import Derived.Laws.EntriesVeiled
import Derived.RegionTactic
import Derived.ChangeAlike
import Derived.Laws.StructEq
import Derived.ChangeArms
import Derived.DataReads
import Derived.OpenShut
namespace Go.Proofs
open Go.Shelf
def Tryd.lays219_ren : Go.Shelf.Ren := ⟨fun | 219 => 146 | 217 => 154 | 225 => 155 | 224 => 156 | 267 => 157 | 266 => 162 | 314 => 163 | n => n, fun | 9 => 9 | 3 => 3 | 4 => 4 | 5 => 5 | 46 => 98 | 146 => 145 | 51 => 144 | n => n, fun | 1 => 0 | n => n⟩
theorem Tryd.lays219 : Go.Proofs.Lays.n219 Tryd.prog Tryd.lays219_ren := {
 mixed := by kernel_rfl
 f217 := Tryd.func154.trans (congrArg some (by kernel_rfl))
 f219 := Tryd.func146.trans (congrArg some (by kernel_rfl))
 f224 := Tryd.func156.trans (congrArg some (by kernel_rfl))
 f225 := Tryd.func155.trans (congrArg some (by kernel_rfl))
 f266 := Tryd.func162.trans (congrArg some (by kernel_rfl))
 f267 := Tryd.func157.trans (congrArg some (by kernel_rfl))
 f314 := Tryd.func163.trans (congrArg some (by kernel_rfl))
 t3 := Tryd.underlying3
 a3 := Tryd.isAgg3
 z3 := Tryd.sizeOf3
 v3 := Tryd.zeroValue3
 t4 := Tryd.underlying4
 a4 := Tryd.isAgg4
 z4 := Tryd.sizeOf4
 v4 := Tryd.zeroValue4
 t5 := Tryd.underlying5
 a5 := Tryd.isAgg5
 z5 := Tryd.sizeOf5
 v5 := Tryd.zeroValue5
 t9 := Tryd.underlying9
 a9 := Tryd.isAgg9
 z9 := Tryd.sizeOf9
 v9 := Tryd.zeroValue9
 t46 := Tryd.underlying98
 a46 := Tryd.isAgg98
 z46 := Tryd.sizeOf98
 v46 := Tryd.zeroValue98
 t51 := Tryd.underlying144
 a51 := Tryd.isAgg144
 z51 := Tryd.sizeOf144
 v51 := Tryd.zeroValue144
 t146 := Tryd.underlying145
 a146 := Tryd.isAgg145
 z146 := Tryd.sizeOf145
 v146 := Tryd.zeroValue145
 g1 := by kernel_rfl }
def Tryd.lays160_ren : Go.Shelf.Ren := ⟨fun | 160 => 145 | 232 => 148 | 231 => 147 | 227 => 149 | 234 => 151 | 233 => 150 | 236 => 153 | 235 => 152 | 228 => 158 | 271 => 161 | 151 => 160 | 197 => 159 | 120 => 166 | 152 => 165 | 260 => 164 | 137 => 167 | 119 => 168 | 224 => 156 | 225 => 155 | 217 => 154 | 266 => 162 | n => n, fun | 9 => 9 | 4 => 4 | 3 => 3 | 5 => 5 | 117 => 135 | 116 => 134 | 0 => 0 | 124 => 138 | 21 => 21 | 105 => 141 | 46 => 98 | 119 => 148 | 139 => 151 | 138 => 150 | n => n, fun | 3 => 1 | 4 => 2 | n => n⟩
theorem Tryd.lays160 : Go.Proofs.Lays.n160 Tryd.prog Tryd.lays160_ren := {
 mixed := by kernel_rfl
 f119 := Tryd.func168.trans (congrArg some (by kernel_rfl))
 f120 := Tryd.func166.trans (congrArg some (by kernel_rfl))
 f137 := Tryd.func167.trans (congrArg some (by kernel_rfl))
 f151 := Tryd.func160.trans (congrArg some (by kernel_rfl))
 f152 := Tryd.func165.trans (congrArg some (by kernel_rfl))
 f160 := Tryd.func145.trans (congrArg some (by kernel_rfl))
 f197 := Tryd.func159.trans (congrArg some (by kernel_rfl))
 f217 := Tryd.func154.trans (congrArg some (by kernel_rfl))
 f224 := Tryd.func156.trans (congrArg some (by kernel_rfl))
 f225 := Tryd.func155.trans (congrArg some (by kernel_rfl))
 f227 := Tryd.func149.trans (congrArg some (by kernel_rfl))
 f228 := Tryd.func158.trans (congrArg some (by kernel_rfl))
 f231 := Tryd.func147.trans (congrArg some (by kernel_rfl))
 f232 := Tryd.func148.trans (congrArg some (by kernel_rfl))
 f233 := Tryd.func150.trans (congrArg some (by kernel_rfl))
 f234 := Tryd.func151.trans (congrArg some (by kernel_rfl))
 f235 := Tryd.func152.trans (congrArg some (by kernel_rfl))
 f236 := Tryd.func153.trans (congrArg some (by kernel_rfl))
 f260 := Tryd.func164.trans (congrArg some (by kernel_rfl))
 f266 := Tryd.func162.trans (congrArg some (by kernel_rfl))
 f271 := Tryd.func161.trans (congrArg some (by kernel_rfl))
 t0 := Tryd.underlying0
 a0 := Tryd.isAgg0
 z0 := Tryd.sizeOf0
 v0 := Tryd.zeroValue0
 t3 := Tryd.underlying3
 a3 := Tryd.isAgg3
 z3 := Tryd.sizeOf3
 v3 := Tryd.zeroValue3
 t4 := Tryd.underlying4
 a4 := Tryd.isAgg4
 z4 := Tryd.sizeOf4
 v4 := Tryd.zeroValue4
 t5 := Tryd.underlying5
 a5 := Tryd.isAgg5
 z5 := Tryd.sizeOf5
 v5 := Tryd.zeroValue5
 t9 := Tryd.underlying9
 a9 := Tryd.isAgg9
 z9 := Tryd.sizeOf9
 v9 := Tryd.zeroValue9
 t21 := Tryd.underlying21
 a21 := Tryd.isAgg21
 z21 := Tryd.sizeOf21
 v21 := Tryd.zeroValue21
 t46 := Tryd.underlying98
 a46 := Tryd.isAgg98
 z46 := Tryd.sizeOf98
 v46 := Tryd.zeroValue98
 t105 := Tryd.underlying141
 a105 := Tryd.isAgg141
 z105 := Tryd.sizeOf141
 v105 := Tryd.zeroValue141
 t116 := Tryd.underlying134
 a116 := Tryd.isAgg134
 z116 := Tryd.sizeOf134
 t117 := Tryd.underlying135
 a117 := Tryd.isAgg135
 z117 := Tryd.sizeOf135
 v117 := Tryd.zeroValue135
 t119 := Tryd.underlying148
 a119 := Tryd.isAgg148
 z119 := Tryd.sizeOf148
 t124 := Tryd.underlying138
 a124 := Tryd.isAgg138
 z124 := Tryd.sizeOf138
 v124 := Tryd.zeroValue138
 t138 := Tryd.underlying150
 a138 := Tryd.isAgg150
 z138 := Tryd.sizeOf150
 v138 := Tryd.zeroValue150
 t139 := Tryd.underlying151
 a139 := Tryd.isAgg151
 z139 := Tryd.sizeOf151
 v139 := Tryd.zeroValue151
 g3 := by kernel_rfl
 g4 := by kernel_rfl }
end Go.Proofs
namespace Go.Proofs.YtagkhoeidjlahaaDoor.G
open Go.RowKit Go.Proofs.YtagkhoeidjlahaaDoorW.PrintWords Go.Proofs.YtagkhoeidjlahaaDoorW.PrintLast Go.Proofs.YtagkhoeidjlahaaDoorW.PrintMore
attribute [local go_sem] max2_int min2_int max_two min_two max_three min_three max_four min_four
set_option linter.unusedVariables false
set_option linter.unusedSimpArgs false
def errW : Option Int → Value
 | none => .nilIface
 | some c => .iface 0 (.int .i64 c)
theorem errW_none : errW none = .nilIface := rfl
theorem errW_some (c : Int) : errW (some c) = .iface 0 (.int .i64 c) := rfl
theorem info3 : (Tryd.prog.info? 3).map (fun i => (i.zero, i.size, i.bytes)) = some (some (.int .i64 0), 1, 8) := by kernel_rfl
theorem info26 : (Tryd.prog.info? 26).map (fun i => (i.zero, i.size, i.bytes)) = some (some (.slice none 0 0), 1, 24) := by kernel_rfl
theorem info36 : (Tryd.prog.info? 36).map (fun i => (i.zero, i.size, i.bytes)) = some (some (.agg #[(.int .i64 0), (.string ⟨#[]⟩), (.int .i64 0), (.slice none 0 0)]), 4, 56) := by kernel_rfl
structure S68 where
 f0 : ByteArray
 f1 : Int
 f2 : Bool
 f3 : Bool
structure S36 where
 f0 : Int
 f1 : ByteArray
 f2 : Int
 f3 : (List S36)
def z36 : S36 := ⟨(0 : Int), (⟨#[]⟩ : ByteArray), (0 : Int), ([] : List S36)⟩
def F36 (d : Kd S36) : Kd S36 := Kd.iso (Kd.pair (Kd.int .i64) (Kd.pair Kd.string (Kd.pair (Kd.int .i64) (Kd.slice 36 d)))) (fun x : S36 => (x.f0, x.f1, x.f2, x.f3))
theorem mono36 : Kd.Mono F36 := Kd.mono_iso _ (Kd.mono_pair (Kd.mono_const _) (Kd.mono_pair (Kd.mono_const _) (Kd.mono_pair (Kd.mono_const _) (Kd.mono_slice 36 Kd.mono_id))))
theorem sub36 : Kd.Sub F36 [36] := Kd.sub_iso _ (Kd.sub_pair (Kd.sub_const _ (by decide)) (Kd.sub_pair (Kd.sub_const _ (by decide)) (Kd.sub_pair (Kd.sub_const _ (by decide)) (Kd.sub_slice 36 (by decide) Kd.sub_id))))
theorem sz36 : ∀ n, (Kd.upto F36 4 [36] n).sz = 4 := Kd.upto_sz (fun _ => rfl)
def k36 : Kd S36 := Kd.fix F36 4 [36] sz36 (Kd.upto_E sub36)
theorem k36_heap : Kd.Heap k36 := Kd.heap_fix (fun _ h_ => Kd.heap_iso _ (Kd.heap_pair (Kd.heap_int .i64) (Kd.heap_pair Kd.heap_string (Kd.heap_pair (Kd.heap_int .i64) (Kd.heap_slice 36 h_)))))
theorem k36_open {w : World} {x : S36} {cs : List Value} (h : k36.K w x cs) : ∃ A3 c3, cs = [.int .i64 x.f0, .string x.f1, .int .i64 x.f2, .slice A3 x.f3.length c3] ∧ x.f3.length ≤ c3 ∧ k36.C w A3 x.f3.length x.f3 := by
 obtain ⟨n, h⟩ := h
 cases n with
 | zero => exact h.elim
 | succ n =>
  obtain ⟨_, _, rfl, rfl, ⟨_, _, rfl, rfl, ⟨_, _, rfl, rfl, ⟨A3, c3, rfl, l3, g3⟩⟩⟩⟩ := h
  exact ⟨A3, c3, rfl, l3, Kd.fix_C g3⟩
theorem k36_mk (w : World) (x : S36) {A3 : Option Addr} {c3 : Nat} (l3 : x.f3.length ≤ c3) (g3 : k36.C w A3 x.f3.length x.f3) : k36.K w x [.int .i64 x.f0, .string x.f1, .int .i64 x.f2, .slice A3 x.f3.length c3] := by
 obtain ⟨n3, q3⟩ := Kd.fix_C_back mono36 g3
 have r3 := Kd.upto_C_le mono36 sz36 (show n3 ≤ n3 by omega) q3
 exact ⟨n3 + 1, ⟨[.int .i64 x.f0], [.string x.f1, .int .i64 x.f2, .slice A3 x.f3.length c3], rfl, rfl, ⟨[.string x.f1], [.int .i64 x.f2, .slice A3 x.f3.length c3], rfl, rfl, ⟨[.int .i64 x.f2], [.slice A3 x.f3.length c3], rfl, rfl, ⟨A3, c3, rfl, l3, r3⟩⟩⟩⟩⟩
theorem k36_openF {W : World} {ok : Nat → Prop} {x : S36} {cs : List Value} (h : Kd.FK k36 W ok x cs) : ∃ A3 c3, cs = [.int .i64 x.f0, .string x.f1, .int .i64 x.f2, .slice A3 x.f3.length c3] ∧ x.f3.length ≤ c3 ∧ Kd.F k36 W ok A3 x.f3.length x.f3 := by
 obtain ⟨A3, c3, rfl, l3, _⟩ := k36_open (Kd.FK_now h)
 exact ⟨A3, c3, rfl, l3, (fun W' hW => by obtain ⟨A3_, c3_, he, l3_, g3_⟩ := k36_open (h W' hW); injection (Option.some.inj (show some (Value.slice A3 x.f3.length c3) = some (Value.slice A3_ x.f3.length c3_) from congrArg (fun l => l[3]?) he)) with ha_ _ _; rw [ha_]; exact g3_)⟩
theorem k36_mkF (W : World) (ok : Nat → Prop) (x : S36) {A3 : Option Addr} {c3 : Nat} (l3 : x.f3.length ≤ c3) (g3 : Kd.F k36 W ok A3 x.f3.length x.f3) : Kd.FK k36 W ok x [.int .i64 x.f0, .string x.f1, .int .i64 x.f2, .slice A3 x.f3.length c3] := fun W2 hW => k36_mk W2 x l3 (g3 W2 hW)
def rd_T36 (xs : List S36) (i : Int) : S36 := xs.getD i.toNat z36
theorem at_T36 {w : World} {A : Option Addr} {n : Nat} {xs : List S36} (h : Kd.C k36 w A n xs) (i : Int) (h0 : 0 ≤ i) (h1 : i < n) : ∃ ad A3 c3, A = some ad ∧ w.cell? (ad.add (i.toNat * 4)) = some (.int .i64 (rd_T36 xs i).f0) ∧ w.cell? ⟨(ad.add (i.toNat * 4)).block, (ad.add (i.toNat * 4)).off + 1, none⟩ = some (.string (rd_T36 xs i).f1) ∧ w.cell? ⟨(ad.add (i.toNat * 4)).block, (ad.add (i.toNat * 4)).off + 2, none⟩ = some (.int .i64 (rd_T36 xs i).f2) ∧ w.cell? ⟨(ad.add (i.toNat * 4)).block, (ad.add (i.toNat * 4)).off + 3, none⟩ = some (.slice A3 (rd_T36 xs i).f3.length c3) ∧ (rd_T36 xs i).f3.length ≤ c3 ∧ k36.C w A3 (rd_T36 xs i).f3.length (rd_T36 xs i).f3 := by
 obtain ⟨ad, c, e, _, hK, hc0⟩ := Kd.C_get h z36 i h0 h1
 have hc : ∀ j u, c[j]? = some u → w.cell? (ad.add (i.toNat * 4 + j)) = some u := hc0
 obtain ⟨A3, c3, rfl, l3, g3⟩ := k36_open hK
 exact ⟨ad, A3, c3, e, hc 0 _ rfl, by rw [← add_field _ _ 1 (by omega)]; exact hc 1 _ rfl, by rw [← add_field _ _ 2 (by omega)]; exact hc 2 _ rfl, by rw [← add_field _ _ 3 (by omega)]; exact hc 3 _ rfl, l3, g3⟩
def rd_L5 (xs : List (List Int)) (i : Int) : (List Int) := xs.getD i.toNat ([] : List Int)
theorem at_L5 {w : World} {A : Option Addr} {n : Nat} {xs : List (List Int)} (h : Kd.C (Kd.slice 3 (Kd.int .i64)) w A n xs) (i : Int) (h0 : 0 ≤ i) (h1 : i < n) : ∃ ad A0 c0, A = some ad ∧ w.cell? (ad.add i.toNat) = some (.slice A0 (rd_L5 xs i).length c0) ∧ (rd_L5 xs i).length ≤ c0 ∧ (Kd.int .i64).C w A0 (rd_L5 xs i).length (rd_L5 xs i) := by
 obtain ⟨ad, c, e, _, hK, hc0⟩ := Kd.C_get h ([] : List Int) i h0 h1
 have hc : ∀ j u, c[j]? = some u → w.cell? (ad.add (i.toNat * 1 + j)) = some u := hc0
 obtain ⟨A0, c0, rfl, l0, g0⟩ := hK
 exact ⟨ad, A0, c0, e, by have hq := hc 0 _ rfl; rwa [Nat.mul_one, Nat.add_zero] at hq, l0, g0⟩
theorem own_len_N {α : Type} {d : Kd α} {e base : Nat} {w w' : World} {ok : Nat → Prop} {v : Value} {xs : List α} {P : Program} {t ty : TypeId} {β : Type} {f : Value → World → Result β} (h : Aside0 (Kd.N d e w base ok v xs)) (hu : P.underlying t = some (.slice (P.elem t))) : ((Builtin.len_ #[t] ty #[v]).run P w').andThen f = f (.int .i64 xs.length) w' := by
 obtain ⟨A, c, rfl⟩ := Kd.N_slice h.out
 rw [run_len_slice _ t ty A xs.length c hu]; rfl
theorem own_len_R {α : Type} {d : Kd α} {e base : Nat} {w w' : World} {ok : Nat → Prop} {v : Value} {xs : List α} {P : Program} {t ty : TypeId} {β : Type} {f : Value → World → Result β} (h : Aside0 (Kd.R d e w base ok v xs)) (hu : P.underlying t = some (.slice (P.elem t))) : ((Builtin.len_ #[t] ty #[v]).run P w').andThen f = f (.int .i64 xs.length) w' := by
 obtain ⟨A, c, rfl⟩ := Kd.R_slice h.out
 rw [run_len_slice _ t ty A xs.length c hu]; rfl
section opn_
def Opn {H : Type} (enc : TypeId × Value → H) (P : Program) (W : World) (n : Nat) {α : Type} (t : TypeId) (d : Kd α) (ok : α → Prop) : Prop :=
 ∀ cs x, DataW.trod enc P W 0 (fun _ => true) true n t cs = some x → ∃ a, d.K W a cs ∧ ok a
def OkI (k : IntKind) (n : Int) : Prop := (Lit.int k n).wf = true
def OkS (s : ByteArray) : Prop := s.size ≤ 9223372036854775807
def OkL {α : Type} (ok : α → Prop) (l : List α) : Prop := l.length ≤ 9223372036854775807 ∧ ∀ x ∈ l, ok x
section opn
variable {H : Type} {enc : TypeId × Value → H} {P : Program} {W : World} {n : Nat} {α : Type} {t e : TypeId} {d : Kd α} {ok : α → Prop}
theorem opn_int {k : IntKind} (ht : P.underlying t = some (.int k)) : Opn enc P W n t (Kd.int k) (OkI k) := fun cs x h => by
 cases n with
 | zero => simp [DataW.trod] at h
 | succ n =>
  unfold DataW.trod at h
  rw [ht] at h
  split at h <;> simp_all
  exact ⟨_, rfl, h.1.2⟩
theorem opn_string (ht : P.underlying t = some .string) : Opn enc P W n t Kd.string OkS := fun cs x h => by
 cases n with
 | zero => simp [DataW.trod] at h
 | succ n =>
  unfold DataW.trod at h
  rw [ht] at h
  split at h <;> simp_all
  exact ⟨_, rfl, h.1⟩
theorem opn_slice (e' : Nat) (ht : P.underlying t = some (.slice e)) (hc : P.cellsOf e = d.sz) (h : ∀ m, m < n → Opn enc P W m e d ok) : Opn enc P W n t (Kd.slice e' d) (OkL ok) := fun cs x hx => by
 rcases DataW.trod_slice ht hx with ⟨rfl, _⟩ | ⟨a, len, cap, elems, rest, m, rfl, rfl, _, _, hl, hm, hlen, hel, _⟩
 ·
  exact ⟨[], ⟨none, 0, rfl, Nat.le_refl _, rfl, by simp, fun h => by simp at h⟩, by simp [OkL]⟩
 ·
  have key : ∀ q, q ≤ len → ∃ xs : List α, xs.length = q ∧ (∀ x ∈ xs, ok x) ∧ ∀ j p, xs[j]? = some p → ∃ c, c.length = d.sz ∧ d.K W p c ∧ ∀ i u, c[i]? = some u → W.cell? (a.add (j * d.sz + i)) = some u := by
   intro q
   induction q with
   | zero => intro _; exact ⟨[], rfl, by simp, fun j p h => by simp at h⟩
   | succ q ih =>
    intro hq
    obtain ⟨xs, h1, h2, h3⟩ := ih (by omega)
    have hb := hel q (by omega)
    rw [List.getElem?_eq_getElem (by omega)] at hb
    obtain ⟨cs', hcs, htr⟩ := Option.bind_eq_some_iff.1 hb
    obtain ⟨_, hcl, hcell⟩ := World.cells?_some hcs
    obtain ⟨p, hK, hok⟩ := h m (by omega) _ _ htr
    refine ⟨xs ++ [p], by simp [h1], ?_, ?_⟩
    ·
     intro x hx
     rcases List.mem_append.1 hx with hx | hx
     ·
      exact h2 x hx
     ·
      rw [List.mem_singleton.1 hx]; exact hok
    ·
     intro j p' hj
     rcases Nat.lt_or_ge j q with hjq | hjq
     ·
      rw [List.getElem?_append_left (by omega)] at hj
      exact h3 j p' hj
     ·
      rw [List.getElem?_append_right (by omega), h1] at hj
      obtain rfl : j = q := by
       rcases Nat.eq_or_lt_of_le hjq with h | h
       ·
        exact h.symm
       ·
        rw [List.getElem?_eq_none (by simp; omega)] at hj; simp at hj
      simp at hj
      subst hj
      refine ⟨cs', by rw [hcl, hc], hK, fun i u hi => ?_⟩
      have hlt := (List.getElem?_eq_some_iff.1 hi).1
      have := hcell i (by omega)
      rw [hi, hc, add_add] at this
      exact this
  obtain ⟨xs, h1, h2, h3⟩ := key len (Nat.le_refl _)
  have hmx : maxLen = 9223372036854775807 := rfl
  refine ⟨xs, ⟨some a, cap, by rw [h1], by omega, rfl, by omega, fun _ => ⟨a, rfl, h3⟩⟩, by omega, h2⟩
end opn
theorem list4 {α : Type} {cs : List α} (h : cs.length = 4) : ∃ a b c d, cs = [a, b, c, d] := by
 match cs, h with
 | [a, b, c, d], _ => exact ⟨a, b, c, d, rfl⟩
inductive OkNode : S36 → Prop
 | mk (x : S36) (h0 : OkI .i64 x.f0) (h1 : OkS x.f1) (h2 : OkI .i64 x.f2) (hl : x.f3.length ≤ 9223372036854775807) (h3 : ∀ y ∈ x.f3, OkNode y) : OkNode x
theorem opnNode {H : Type} {enc : TypeId × Value → H} {W : World} (n : Nat) : Opn enc Tryd.prog W n 36 k36 OkNode := by
 induction n using Nat.strongRecOn with
 | _ n ih =>
 intro cs x h
 have hu := Tryd.underlying36
 obtain ⟨xs, m, rfl, _, hl, hxs, hf⟩ := DataW.trod_struct hu h
 have e0 := hf 0 _ rfl
 have e1 := hf 1 _ rfl
 have e2 := hf 2 _ rfl
 have e3 := hf 3 _ rfl
 have hlx : xs.length = 4 := hxs
 rw [List.getElem?_eq_getElem (by omega)] at e0 e1 e2 e3
 have c9 : Tryd.prog.cellsOf 9 = 1 := by kernel_rfl
 have c3 : Tryd.prog.cellsOf 3 = 1 := by kernel_rfl
 have c4 : Tryd.prog.cellsOf 4 = 1 := by kernel_rfl
 have c22_ : Tryd.prog.cellsOf 23 = 1 := by kernel_rfl
 replace e0 : DataW.trod enc Tryd.prog W 0 (fun _ => true) true m 3 ((cs.drop 0).take (Tryd.prog.cellsOf 3)) = some xs[0] := e0
 rw [c3] at e0
 replace e1 : DataW.trod enc Tryd.prog W 0 (fun _ => true) true m 9 ((cs.drop 1).take (Tryd.prog.cellsOf 9)) = some xs[1] := e1
 rw [c9] at e1
 replace e2 : DataW.trod enc Tryd.prog W 0 (fun _ => true) true m 3 ((cs.drop 2).take (Tryd.prog.cellsOf 3)) = some xs[2] := e2
 rw [c3] at e2
 replace e3 : DataW.trod enc Tryd.prog W 0 (fun _ => true) true m 23 ((cs.drop 3).take (Tryd.prog.cellsOf 23)) = some xs[3] := e3
 rw [c22_] at e3
 obtain ⟨a0, k0, o0⟩ := opn_int (show Tryd.prog.underlying 3 = some (.int .i64) from by kernel_rfl) _ _ e0
 obtain ⟨a1, k1, o1⟩ := opn_string (show Tryd.prog.underlying 9 = some .string from by kernel_rfl) _ _ e1
 obtain ⟨a2, k2, o2⟩ := opn_int (show Tryd.prog.underlying 3 = some (.int .i64) from by kernel_rfl) _ _ e2
 obtain ⟨a3, k3, o3⟩ := opn_slice 36 Tryd.underlying23 (show Tryd.prog.cellsOf 36 = k36.sz from by kernel_rfl) (fun q hq => ih q (by omega)) _ _ e3
 have hl4 : cs.length = 4 := hl.trans (by kernel_rfl)
 obtain ⟨u0, u1, u2, u3, rfl⟩ := list4 hl4
 have k0' : [u0] = [Value.int .i64 a0] := k0
 have k1' : [u1] = [Value.string a1] := k1
 have k2' : [u2] = [Value.int .i64 a2] := k2
 obtain ⟨A, c, k3', hle, hC⟩ := k3
 have k3'' : [u3] = [Value.slice A a3.length c] := k3'
 simp only [List.cons.injEq, and_true] at k0' k1' k2' k3''
 subst k0' k1' k2' k3''
 exact ⟨⟨a0, a1, a2, a3⟩, k36_mk W ⟨a0, a1, a2, a3⟩ hle hC, OkNode.mk _ o0 o1 o2 o3.1 o3.2⟩
section args
variable {H : Type} {enc : TypeId × Value → H} {W : World} {base : Nat} {v : Value} {d : DataW H} {ps : List MemPlace}
theorem agg_arg {P : Program} {r : Reach} {t : TypeId} {fs : Array Field} (hu : P.underlying t = some (.struct fs)) (h : Value.okWide P W r base t v) : ∃ cs, v = .agg cs := by
 unfold Value.okWide at h
 rw [hu] at h
 obtain ⟨cs, e, _⟩ := h
 exact ⟨cs, e⟩
set_option maxRecDepth 100000 in
theorem node_arg (hv : Value.okWide Tryd.prog W .any base 36 v) (h : DataW.Trod enc Tryd.prog W 0 (fun _ => true) true 36 v d ps) :
  ∃ (x : S36) (A : Option Addr) (c : Nat), v = .agg #[.int .i64 x.f0, .string x.f1, .int .i64 x.f2, .slice A x.f3.length c] ∧ x.f3.length ≤ c ∧ Kd.C k36 W A x.f3.length x.f3 ∧ OkNode x := by
 obtain ⟨cs, rfl⟩ := agg_arg Tryd.underlying36 hv
 obtain ⟨n, h⟩ := h
 obtain ⟨x, hK, ho⟩ := opnNode n _ _ h
 obtain ⟨A, c, e, hl, hC⟩ := k36_open hK
 exact ⟨x, A, c, by rw [show cs = (Value.agg cs).cells from rfl]; exact congrArg Value.agg (Array.toList_inj.1 (by rw [e])), hl, hC, ho⟩
end args
end opn_
section opr_
section rng
variable {H : Type} {enc : TypeId × Value → H} {W : World} {base : Nat} {v : Value} {d : DataW H} {ps : List MemPlace}
theorem list3 {α : Type} {cs : List α} (h : cs.length = 3) : ∃ a b c, cs = [a, b, c] := by
 match cs, h with
 | [a, b, c], _ => exact ⟨a, b, c, rfl⟩
def OkRange (x : List Int × Int × Int) : Prop := OkL (OkI .i64) x.1 ∧ OkI .i64 x.2.1 ∧ OkI .i64 x.2.2
set_option maxRecDepth 100000 in
theorem range_arg (hv : Value.okWide Tryd.prog W .any base 54 v) (h : DataW.Trod enc Tryd.prog W 0 (fun _ => true) true 54 v d ps) :
  ∃ (x : List Int × Int × Int) (A : Option Addr) (c : Nat), v = .agg #[.slice A x.1.length c, .int .i64 x.2.1, .int .i64 x.2.2] ∧ x.1.length ≤ c ∧ Kd.C (Kd.int .i64) W A x.1.length x.1 ∧ OkRange x := by
 have hu := Tryd.underlying54
 obtain ⟨cs, rfl⟩ := agg_arg hu hv
 obtain ⟨n, h⟩ := h
 obtain ⟨xs, m, rfl, _, hl, hxs, hf⟩ := DataW.trod_struct hu h
 have e0 := hf 0 _ rfl
 have e1 := hf 1 _ rfl
 have e2 := hf 2 _ rfl
 have hlx : xs.length = 3 := hxs
 rw [List.getElem?_eq_getElem (by omega)] at e0 e1 e2
 have c3 : Tryd.prog.cellsOf 3 = 1 := by kernel_rfl
 have c26_ : Tryd.prog.cellsOf 26 = 1 := by kernel_rfl
 replace e0 : DataW.trod enc Tryd.prog W 0 (fun _ => true) true m 26 (((Value.agg cs).cells.toList.drop 0).take (Tryd.prog.cellsOf 26)) = some xs[0] := e0
 rw [c26_] at e0
 replace e1 : DataW.trod enc Tryd.prog W 0 (fun _ => true) true m 3 (((Value.agg cs).cells.toList.drop 1).take (Tryd.prog.cellsOf 3)) = some xs[1] := e1
 rw [c3] at e1
 replace e2 : DataW.trod enc Tryd.prog W 0 (fun _ => true) true m 3 (((Value.agg cs).cells.toList.drop 2).take (Tryd.prog.cellsOf 3)) = some xs[2] := e2
 rw [c3] at e2
 obtain ⟨a0, k0, o0⟩ := opn_slice 3 Tryd.underlying26 (show Tryd.prog.cellsOf 3 = (Kd.int .i64).sz from by kernel_rfl) (fun q _ => opn_int (show Tryd.prog.underlying 3 = some (.int .i64) from by kernel_rfl)) _ _ e0
 obtain ⟨a1, k1, o1⟩ := opn_int (show Tryd.prog.underlying 3 = some (.int .i64) from by kernel_rfl) _ _ e1
 obtain ⟨a2, k2, o2⟩ := opn_int (show Tryd.prog.underlying 3 = some (.int .i64) from by kernel_rfl) _ _ e2
 have hl3 : (Value.agg cs).cells.toList.length = 3 := hl.trans (by kernel_rfl)
 obtain ⟨u0, u1, u2, hcs⟩ := list3 hl3
 rw [hcs] at k0 k1 k2
 obtain ⟨A, c, k0', hle, hC⟩ := k0
 have k0'' : [u0] = [Value.slice A a0.length c] := k0'
 have k1' : [u1] = [Value.int .i64 a1] := k1
 have k2' : [u2] = [Value.int .i64 a2] := k2
 simp only [List.cons.injEq, and_true] at k0'' k1' k2'
 subst k0'' k1' k2'
 refine ⟨(a0, a1, a2), A, c, congrArg Value.agg (Array.toList_inj.1 ?_), hle, hC, o0, o1, o2⟩
 have : cs.toList = _ := hcs
 rw [this]
end rng
end opr_
section cnt
mutual

def cnt : S36 → Nat
 | ⟨_, _, _, l⟩ => 1 + cntL l
def cntL : List S36 → Nat
 | [] => 0
 | x :: l => cnt x + cntL l
end
theorem cnt_eq (x : S36) : cnt x = 1 + cntL x.f3 := by cases x; simp [cnt]
theorem cntL_mem : ∀ {l : List S36} {x : S36}, x ∈ l → cnt x ≤ cntL l
 | y :: l, x, h => by
  rw [cntL]
  rcases List.mem_cons.1 h with rfl | h
  ·
   omega
  ·
   have := cntL_mem h; omega
end cnt
def slices_Clone_int_int.f (l0 : List Int) : Option (List Int) := if l0.length < 17592186044416 then some l0 else none
set_option maxHeartbeats 4000000 in

theorem slices_Clone_int_int.calls (A0 : Option Addr) (c0 : Nat) (l0 : List Int) (r : List Int) (w : World) (hr0 : Kd.C (Kd.int .i64) w A0 l0.length l0) (hc0 : l0.length ≤ c0) (h : slices_Clone_int_int.f l0 = some r) :
  Calls Tryd.prog 81 #[.slice A0 l0.length c0] w fun e w' => ∃ v0_ : Value, e = .returned (v0_) ∧ Kd.R (Kd.int .i64) 3 w' w.heap.size (fun _ => True) v0_ r ∧ Below w.heap.size w w' := by
 unfold slices_Clone_int_int.f at h
 split at h
 ·
  rename_i hlt
  obtain rfl := Option.some.inj h
  clear h
  have HB := Aside0.mk (Below.refl w.heap.size w)
  have HL := Aside0.mk hlt
  have HR := Aside0.mk hr0
  have HC := Aside0.mk hc0
  rcases A0 with _ | ad
  ·
   have hl : l0 = [] := by
    rcases l0 with _ | ⟨x, l⟩
    ·
     rfl
    ·
     obtain ⟨ad, he, _⟩ := hr0.2.2 (by simp)
     cases he
   subst hl
   clear hr0 hc0 hlt
   have heq := fun W => Lib.run_eql_slice_nil (P := Tryd.prog) W 26 3 none 0 c0 0 0 Tryd.underlying26
   go_enter Tryd.func81, Tryd.ntmps81
   go_wp2
   go_ret
   exact ⟨_, rfl, Kd.R_nil _ _ _ _ _, Below.refl _ _⟩
  ·
   have heq := fun W => Lib.run_eql_slice_nil (P := Tryd.prog) W 26 3 (some ad) l0.length c0 0 0 Tryd.underlying26
   clear hr0 hc0 hlt
   go_enter Tryd.func81, Tryd.ntmps81
   go_wp2_with (first | ((with_reducible refine gate_dst (N := 5) rfl ?_); refine Kd.R_lit (Kd.int .i64) _ 3 ?hg (N := 5) ?hd (xs := ([] : List Int)) (inner := []) (ok := fun _ => True) (okp := fun _ => True) ?hr ?hp (fun _ hk => hk) trivial (Below.refl _ _) (Nat.le_refl _) (by simp) ?_; (case hd => rfl); (case hg => rfl); (case hr => first | (go_simp; done) | (go_simp; rfl)); (case hp => exact (Reps.none _ _)); intro v5 w5 ho hb hg_ hnew_; have HO := Aside0.mk ho; have HB1 := Aside0.mk hb; clear ho hb hg_ hnew_) | ((with_reducible refine gate_builtin (b := .append) (xs := #[.tmp 5, .tmp 6]) rfl ?_); at_builtin; refine Kd.R_append_rows (Kd.int .i64) (w0 := w) w.heap.size rfl (.tmp 5) (.tmp 6) 26 3 (.int .i64 0) 8 rfl Tryd.underlying26 info3 rfl (by decide) (by omega) v5 [] l0 _ _ _ (fun k_ => True) (fun _ => False) rfl rfl ?aO ?aR (fun _ _ h => h) (fun _ h => h.elim) (fun _ _ => trivial) ?aB ?aS ?aL ?_; (case aR => exact Kd.C_below HR.out HB1.out); (case aB => exact HB1.out); (case aO => exact HO.out); (case aS => exact HB1.out.size); (case aL => have := HL.out; simp; omega); intro v6 w6 ho hb hg hat; have HO2 := Aside0.mk ho; have HB2 := Aside0.mk hb; clear ho hb hg hat))
   go_ret
   exact ⟨_, rfl, by simpa using HO2.out, HB2.out⟩
 ·
  cases h
end Go.Proofs.YtagkhoeidjlahaaDoor.G
