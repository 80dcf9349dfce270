-- Written by pack2.py, a program of this session: this session's texts and those that the kit's printer wrote for this claim, pruned to what the claims use.
import Derived.Shelf.Strings.Search1
import Derived.Shelf.Strings.Search2
import Derived.Shelf.Strings.SlTrimAscii
import Derived.Test.YthdppkmmfjaiaaaGreatDoorProg
import Derived.Test.YthdppkmmfjaiaaaGreatDoorCAc1
import Derived.Below
import Derived.Deep.Draws
import Derived.Deep.AppendLies
import Derived.Maps.AppendAt
import Derived.OwnWalk
import Derived.Laws.BytesArg
import Derived.Laws.MakeOwn
import Derived.Laws.OwnMore
import Derived.Deep.OwnRows
import Derived.Tactics
import Derived.Lib.ConvBytes
import Derived.Laws.Slices
import Derived.WalkKit
import Derived.KernelRfl
import Derived.RowKit3
import Derived.Deep.LoopGhost
import Derived.Deep.QuietTactic
import Derived.BigQuiet
import Derived.WideLaws
import Derived.Deep.DeepCutAuto
import Derived.Deep.CutBlock
import Derived.Deep.RegionHeld3
import Derived.Laws.Rows
import Derived.Lib.AppendStr
import Derived.ArgAppend
import Derived.Laws.IdiomCopy
import Derived.OrdersHeld
import Derived.Laws.BitsLemmas
import Derived.RowKit
import Derived.Lib.SliceRun
import Derived.Laws.EntriesVeiled
import Derived.RegionTactic
import Derived.ChangeAlike
import Derived.Laws.StructEq
import Derived.ChangeArms
import Derived.DataReads
import Derived.OpenShut
namespace Go.Proofs
open Go.Shelf
def Tryz.lays219_ren : Go.Shelf.Ren := ⟨fun | 219 => 111 | 217 => 119 | 225 => 120 | 224 => 121 | 267 => 122 | 266 => 127 | 314 => 128 | n => n, fun | 9 => 9 | 3 => 3 | 4 => 4 | 5 => 5 | 46 => 133 | 146 => 138 | 51 => 137 | n => n, fun | 1 => 0 | n => n⟩
theorem Tryz.lays219 : Go.Proofs.Lays.n219 Tryz.prog Tryz.lays219_ren := {
  mixed := by kernel_rfl
  f217 := Tryz.func119.trans (congrArg some (by kernel_rfl))
  f219 := Tryz.func111.trans (congrArg some (by kernel_rfl))
  f224 := Tryz.func121.trans (congrArg some (by kernel_rfl))
  f225 := Tryz.func120.trans (congrArg some (by kernel_rfl))
  f266 := Tryz.func127.trans (congrArg some (by kernel_rfl))
  f267 := Tryz.func122.trans (congrArg some (by kernel_rfl))
  f314 := Tryz.func128.trans (congrArg some (by kernel_rfl))
  t3 := Tryz.underlying3
  a3 := Tryz.isAgg3
  z3 := Tryz.sizeOf3
  v3 := Tryz.zeroValue3
  t4 := Tryz.underlying4
  a4 := Tryz.isAgg4
  z4 := Tryz.sizeOf4
  v4 := Tryz.zeroValue4
  t5 := Tryz.underlying5
  a5 := Tryz.isAgg5
  z5 := Tryz.sizeOf5
  v5 := Tryz.zeroValue5
  t9 := Tryz.underlying9
  a9 := Tryz.isAgg9
  z9 := Tryz.sizeOf9
  v9 := Tryz.zeroValue9
  t46 := Tryz.underlying133
  a46 := Tryz.isAgg133
  z46 := Tryz.sizeOf133
  v46 := Tryz.zeroValue133
  t51 := Tryz.underlying137
  a51 := Tryz.isAgg137
  z51 := Tryz.sizeOf137
  v51 := Tryz.zeroValue137
  t146 := Tryz.underlying138
  a146 := Tryz.isAgg138
  z146 := Tryz.sizeOf138
  v146 := Tryz.zeroValue138
  g1 := by kernel_rfl }
def Tryz.lays160_ren : Go.Shelf.Ren := ⟨fun | 160 => 106 | 232 => 113 | 231 => 112 | 227 => 114 | 234 => 116 | 233 => 115 | 236 => 118 | 235 => 117 | 228 => 123 | 271 => 126 | 151 => 125 | 197 => 124 | 120 => 131 | 152 => 130 | 260 => 129 | 137 => 132 | 119 => 133 | 224 => 121 | 225 => 120 | 217 => 119 | 266 => 127 | n => n, fun | 9 => 9 | 4 => 4 | 3 => 3 | 5 => 5 | 117 => 128 | 116 => 127 | 0 => 0 | 124 => 131 | 21 => 21 | 105 => 134 | 46 => 133 | 119 => 141 | 139 => 144 | 138 => 143 | n => n, fun | 3 => 1 | 4 => 2 | n => n⟩
theorem Tryz.lays160 : Go.Proofs.Lays.n160 Tryz.prog Tryz.lays160_ren := {
  mixed := by kernel_rfl
  f119 := Tryz.func133.trans (congrArg some (by kernel_rfl))
  f120 := Tryz.func131.trans (congrArg some (by kernel_rfl))
  f137 := Tryz.func132.trans (congrArg some (by kernel_rfl))
  f151 := Tryz.func125.trans (congrArg some (by kernel_rfl))
  f152 := Tryz.func130.trans (congrArg some (by kernel_rfl))
  f160 := Tryz.func106.trans (congrArg some (by kernel_rfl))
  f197 := Tryz.func124.trans (congrArg some (by kernel_rfl))
  f217 := Tryz.func119.trans (congrArg some (by kernel_rfl))
  f224 := Tryz.func121.trans (congrArg some (by kernel_rfl))
  f225 := Tryz.func120.trans (congrArg some (by kernel_rfl))
  f227 := Tryz.func114.trans (congrArg some (by kernel_rfl))
  f228 := Tryz.func123.trans (congrArg some (by kernel_rfl))
  f231 := Tryz.func112.trans (congrArg some (by kernel_rfl))
  f232 := Tryz.func113.trans (congrArg some (by kernel_rfl))
  f233 := Tryz.func115.trans (congrArg some (by kernel_rfl))
  f234 := Tryz.func116.trans (congrArg some (by kernel_rfl))
  f235 := Tryz.func117.trans (congrArg some (by kernel_rfl))
  f236 := Tryz.func118.trans (congrArg some (by kernel_rfl))
  f260 := Tryz.func129.trans (congrArg some (by kernel_rfl))
  f266 := Tryz.func127.trans (congrArg some (by kernel_rfl))
  f271 := Tryz.func126.trans (congrArg some (by kernel_rfl))
  t0 := Tryz.underlying0
  a0 := Tryz.isAgg0
  z0 := Tryz.sizeOf0
  v0 := Tryz.zeroValue0
  t3 := Tryz.underlying3
  a3 := Tryz.isAgg3
  z3 := Tryz.sizeOf3
  v3 := Tryz.zeroValue3
  t4 := Tryz.underlying4
  a4 := Tryz.isAgg4
  z4 := Tryz.sizeOf4
  v4 := Tryz.zeroValue4
  t5 := Tryz.underlying5
  a5 := Tryz.isAgg5
  z5 := Tryz.sizeOf5
  v5 := Tryz.zeroValue5
  t9 := Tryz.underlying9
  a9 := Tryz.isAgg9
  z9 := Tryz.sizeOf9
  v9 := Tryz.zeroValue9
  t21 := Tryz.underlying21
  a21 := Tryz.isAgg21
  z21 := Tryz.sizeOf21
  v21 := Tryz.zeroValue21
  t46 := Tryz.underlying133
  a46 := Tryz.isAgg133
  z46 := Tryz.sizeOf133
  v46 := Tryz.zeroValue133
  t105 := Tryz.underlying134
  a105 := Tryz.isAgg134
  z105 := Tryz.sizeOf134
  v105 := Tryz.zeroValue134
  t116 := Tryz.underlying127
  a116 := Tryz.isAgg127
  z116 := Tryz.sizeOf127
  t117 := Tryz.underlying128
  a117 := Tryz.isAgg128
  z117 := Tryz.sizeOf128
  v117 := Tryz.zeroValue128
  t119 := Tryz.underlying141
  a119 := Tryz.isAgg141
  z119 := Tryz.sizeOf141
  t124 := Tryz.underlying131
  a124 := Tryz.isAgg131
  z124 := Tryz.sizeOf131
  v124 := Tryz.zeroValue131
  t138 := Tryz.underlying143
  a138 := Tryz.isAgg143
  z138 := Tryz.sizeOf143
  v138 := Tryz.zeroValue143
  t139 := Tryz.underlying144
  a139 := Tryz.isAgg144
  z139 := Tryz.sizeOf144
  v139 := Tryz.zeroValue144
  g3 := by kernel_rfl
  g4 := by kernel_rfl }
end Go.Proofs
namespace Go.Proofs.YthdppkmmfjaiaaaGreatDoor.G
open Go.RowKit Go.Proofs.YthdppkmmfjaiaaaGreatDoorW.PrintWords Go.Proofs.YthdppkmmfjaiaaaGreatDoorW.PrintLast Go.Proofs.YthdppkmmfjaiaaaGreatDoorW.PrintMore
attribute [local go_sem] max2_int min2_int max_two min_two max_three min_three max_four min_four
set_option linter.unusedVariables false
set_option linter.unusedSimpArgs false
def errW : Option Int → Value
  | none => .nilIface
  | some c => .iface 0 (.int .i64 c)
theorem errW_none : errW none = .nilIface := rfl
theorem errW_some (c : Int) : errW (some c) = .iface 0 (.int .i64 c) := rfl
theorem info3 : (Tryz.prog.info? 3).map (fun i => (i.zero, i.size, i.bytes)) = some (some (.int .i64 0), 1, 8) := by kernel_rfl
theorem info75 : (Tryz.prog.info? 75).map (fun i => (i.zero, i.size, i.bytes)) = some (some (.agg #[(.string ⟨#[]⟩), (.int .i64 0), (.bool false), (.bool false)]), 4, 32) := by kernel_rfl
structure S75 where
  f0 : ByteArray
  f1 : Int
  f2 : Bool
  f3 : Bool
def z75 : S75 := ⟨(⟨#[]⟩ : ByteArray), (0 : Int), false, false⟩
def k75 : Kd S75 := Kd.iso (Kd.pair Kd.string (Kd.pair (Kd.int .i64) (Kd.pair Kd.bool Kd.bool))) (fun x : S75 => (x.f0, x.f1, x.f2, x.f3))
theorem k75_open {w : World} {x : S75} {cs : List Value} (h : k75.K w x cs) : cs = [.string x.f0, .int .i64 x.f1, .bool x.f2, .bool x.f3] := by
  obtain ⟨_, _, rfl, rfl, ⟨_, _, rfl, rfl, ⟨_, _, rfl, rfl, rfl⟩⟩⟩ := h
  exact rfl
theorem k75_mk (w : World) (x : S75)  : k75.K w x [.string x.f0, .int .i64 x.f1, .bool x.f2, .bool x.f3] := ⟨[.string x.f0], [.int .i64 x.f1, .bool x.f2, .bool x.f3], rfl, rfl, ⟨[.int .i64 x.f1], [.bool x.f2, .bool x.f3], rfl, rfl, ⟨[.bool x.f2], [.bool x.f3], rfl, rfl, rfl⟩⟩⟩
theorem k75_mkM (w : World) (base : Nat) (ok : Nat → Prop) (x : S75)  : k75.M w base ok x [.string x.f0, .int .i64 x.f1, .bool x.f2, .bool x.f3] := ⟨[.string x.f0], [.int .i64 x.f1, .bool x.f2, .bool x.f3], rfl, rfl, ⟨[.int .i64 x.f1], [.bool x.f2, .bool x.f3], rfl, rfl, ⟨[.bool x.f2], [.bool x.f3], rfl, rfl, rfl⟩⟩⟩
def rd_T75 (xs : List S75) (i : Int) : S75 := xs.getD i.toNat z75
theorem at_T75 {w : World} {A : Option Addr} {n : Nat} {xs : List S75} (h : Kd.C k75 w A n xs) (i : Int) (h0 : 0 ≤ i) (h1 : i < n) : ∃ ad , A = some ad ∧ w.cell? (ad.add (i.toNat * 4)) = some (.string (rd_T75 xs i).f0) ∧ w.cell? ⟨(ad.add (i.toNat * 4)).block, (ad.add (i.toNat * 4)).off + 1, none⟩ = some (.int .i64 (rd_T75 xs i).f1) ∧ w.cell? ⟨(ad.add (i.toNat * 4)).block, (ad.add (i.toNat * 4)).off + 2, none⟩ = some (.bool (rd_T75 xs i).f2) ∧ w.cell? ⟨(ad.add (i.toNat * 4)).block, (ad.add (i.toNat * 4)).off + 3, none⟩ = some (.bool (rd_T75 xs i).f3) := by
  obtain ⟨ad, c, e, _, hK, hc0⟩ := Kd.C_get h z75 i h0 h1
  have hc : ∀ j u, c[j]? = some u → w.cell? (ad.add (i.toNat * 4 + j)) = some u := hc0
  obtain rfl := k75_open hK
  exact ⟨ad, e, hc 0 _ rfl, by rw [← add_field _ _ 1 (by omega)]; exact hc 1 _ rfl, by rw [← add_field _ _ 2 (by omega)]; exact hc 2 _ rfl, by rw [← add_field _ _ 3 (by omega)]; exact hc 3 _ rfl⟩
structure S48 where
  f0 : Int
  f1 : ByteArray
  f2 : Int
  f3 : (List S48)
def z48 : S48 := ⟨(0 : Int), (⟨#[]⟩ : ByteArray), (0 : Int), ([] : List S48)⟩
def F48 (d : Kd S48) : Kd S48 := Kd.iso (Kd.pair (Kd.int .i64) (Kd.pair Kd.string (Kd.pair (Kd.int .i64) (Kd.slice 48 d)))) (fun x : S48 => (x.f0, x.f1, x.f2, x.f3))
theorem mono48 : Kd.Mono F48 := Kd.mono_iso _ (Kd.mono_pair (Kd.mono_const _) (Kd.mono_pair (Kd.mono_const _) (Kd.mono_pair (Kd.mono_const _) (Kd.mono_slice 48 Kd.mono_id))))
theorem sub48 : Kd.Sub F48 [48] := Kd.sub_iso _ (Kd.sub_pair (Kd.sub_const _ (by decide)) (Kd.sub_pair (Kd.sub_const _ (by decide)) (Kd.sub_pair (Kd.sub_const _ (by decide)) (Kd.sub_slice 48 (by decide) Kd.sub_id))))
theorem sz48 : ∀ n, (Kd.upto F48 4 [48] n).sz = 4 := Kd.upto_sz (fun _ => rfl)
def k48 : Kd S48 := Kd.fix F48 4 [48] sz48 (Kd.upto_E sub48)
theorem k48_heap : Kd.Heap k48 := Kd.heap_fix (fun _ h_ => Kd.heap_iso _ (Kd.heap_pair (Kd.heap_int .i64) (Kd.heap_pair Kd.heap_string (Kd.heap_pair (Kd.heap_int .i64) (Kd.heap_slice 48 h_)))))
theorem k48_open {w : World} {x : S48} {cs : List Value} (h : k48.K w x cs) : ∃ A3 c3, cs = [.int .i64 x.f0, .string x.f1, .int .i64 x.f2, .slice A3 x.f3.length c3] ∧ x.f3.length ≤ c3 ∧ k48.C w A3 x.f3.length x.f3 := by
  obtain ⟨n, h⟩ := h
  cases n with
  | zero => exact h.elim
  | succ n =>
    obtain ⟨_, _, rfl, rfl, ⟨_, _, rfl, rfl, ⟨_, _, rfl, rfl, ⟨A3, c3, rfl, l3, g3⟩⟩⟩⟩ := h
    exact ⟨A3, c3, rfl, l3, Kd.fix_C g3⟩
theorem k48_mk (w : World) (x : S48) {A3 : Option Addr} {c3 : Nat} (l3 : x.f3.length ≤ c3) (g3 : k48.C w A3 x.f3.length x.f3) : k48.K w x [.int .i64 x.f0, .string x.f1, .int .i64 x.f2, .slice A3 x.f3.length c3] := by
  obtain ⟨n3, q3⟩ := Kd.fix_C_back mono48 g3
  have r3 := Kd.upto_C_le mono48 sz48 (show n3 ≤ n3 by omega) q3
  exact ⟨n3 + 1, ⟨[.int .i64 x.f0], [.string x.f1, .int .i64 x.f2, .slice A3 x.f3.length c3], rfl, rfl, ⟨[.string x.f1], [.int .i64 x.f2, .slice A3 x.f3.length c3], rfl, rfl, ⟨[.int .i64 x.f2], [.slice A3 x.f3.length c3], rfl, rfl, ⟨A3, c3, rfl, l3, r3⟩⟩⟩⟩⟩
def rd_T48 (xs : List S48) (i : Int) : S48 := xs.getD i.toNat z48
theorem at_T48 {w : World} {A : Option Addr} {n : Nat} {xs : List S48} (h : Kd.C k48 w A n xs) (i : Int) (h0 : 0 ≤ i) (h1 : i < n) : ∃ ad A3 c3, A = some ad ∧ w.cell? (ad.add (i.toNat * 4)) = some (.int .i64 (rd_T48 xs i).f0) ∧ w.cell? ⟨(ad.add (i.toNat * 4)).block, (ad.add (i.toNat * 4)).off + 1, none⟩ = some (.string (rd_T48 xs i).f1) ∧ w.cell? ⟨(ad.add (i.toNat * 4)).block, (ad.add (i.toNat * 4)).off + 2, none⟩ = some (.int .i64 (rd_T48 xs i).f2) ∧ w.cell? ⟨(ad.add (i.toNat * 4)).block, (ad.add (i.toNat * 4)).off + 3, none⟩ = some (.slice A3 (rd_T48 xs i).f3.length c3) ∧ (rd_T48 xs i).f3.length ≤ c3 ∧ k48.C w A3 (rd_T48 xs i).f3.length (rd_T48 xs i).f3 := by
  obtain ⟨ad, c, e, _, hK, hc0⟩ := Kd.C_get h z48 i h0 h1
  have hc : ∀ j u, c[j]? = some u → w.cell? (ad.add (i.toNat * 4 + j)) = some u := hc0
  obtain ⟨A3, c3, rfl, l3, g3⟩ := k48_open hK
  exact ⟨ad, A3, c3, e, hc 0 _ rfl, by rw [← add_field _ _ 1 (by omega)]; exact hc 1 _ rfl, by rw [← add_field _ _ 2 (by omega)]; exact hc 2 _ rfl, by rw [← add_field _ _ 3 (by omega)]; exact hc 3 _ rfl, l3, g3⟩
structure S83 where
  f0 : ByteArray
  f1 : Int
  f2 : Int
  f3 : Int
  f4 : Int
  f5 : Int
def k83 : Kd S83 := Kd.iso (Kd.pair Kd.string (Kd.pair (Kd.int .i64) (Kd.pair (Kd.int .i64) (Kd.pair (Kd.int .i64) (Kd.pair (Kd.int .i64) (Kd.int .i64)))))) (fun x : S83 => (x.f0, x.f1, x.f2, x.f3, x.f4, x.f5))
structure S104 where
  f0 : ByteArray
  f1 : Bool
def k104 : Kd S104 := Kd.iso (Kd.pair Kd.string Kd.bool) (fun x : S104 => (x.f0, x.f1))
structure S62 where
  f0 : ByteArray
  f1 : (List ByteArray)
  f2 : (List S104)
  f3 : Int
def k62 : Kd S62 := Kd.iso (Kd.pair Kd.string (Kd.pair (Kd.slice 9 Kd.string) (Kd.pair (Kd.slice 104 k104) (Kd.int .i64)))) (fun x : S62 => (x.f0, x.f1, x.f2, x.f3))
theorem own_len_N {α : Type} {d : Kd α} {e base : Nat} {w w' : World} {ok : Nat → Prop} {v : Value} {xs : List α} {P : Program} {t ty : TypeId} {β : Type} {f : Value → World → Result β} (h : Aside0 (Kd.N d e w base ok v xs)) (hu : P.underlying t = some (.slice (P.elem t))) : ((Builtin.len_ #[t] ty #[v]).run P w').andThen f = f (.int .i64 xs.length) w' := by
  obtain ⟨A, c, rfl⟩ := Kd.N_slice h.out
  rw [run_len_slice _ t ty A xs.length c hu]; rfl
theorem own_len_R {α : Type} {d : Kd α} {e base : Nat} {w w' : World} {ok : Nat → Prop} {v : Value} {xs : List α} {P : Program} {t ty : TypeId} {β : Type} {f : Value → World → Result β} (h : Aside0 (Kd.R d e w base ok v xs)) (hu : P.underlying t = some (.slice (P.elem t))) : ((Builtin.len_ #[t] ty #[v]).run P w').andThen f = f (.int .i64 xs.length) w' := by
  obtain ⟨A, c, rfl⟩ := Kd.R_slice h.out
  rw [run_len_slice _ t ty A xs.length c hu]; rfl
end Go.Proofs.YthdppkmmfjaiaaaGreatDoor.G
namespace Go.Proofs.YthdppkmmfjaiaaaGreatDoor.G
open Go.RowKit Go.Proofs.YthdppkmmfjaiaaaGreatDoorW.PrintWords Go.Proofs.YthdppkmmfjaiaaaGreatDoorW.PrintLast Go.Proofs.YthdppkmmfjaiaaaGreatDoorW.PrintMore
attribute [local go_sem] max2_int min2_int max_two min_two max_three min_three max_four min_four
set_option linter.unusedVariables false
set_option linter.unusedSimpArgs false
section opn_
def Opn {H : Type} (enc : TypeId × Value → H) (P : Program) (W : World) (n : Nat) {α : Type} (t : TypeId) (d : Kd α) (ok : α → Prop) : Prop :=
  ∀ cs x, DataW.trod enc P W 0 (fun _ => true) true n t cs = some x → ∃ a, d.K W a cs ∧ ok a
def OkI (k : IntKind) (n : Int) : Prop := (Lit.int k n).wf = true
def OkS (s : ByteArray) : Prop := s.size ≤ 9223372036854775807
def OkL {α : Type} (ok : α → Prop) (l : List α) : Prop := l.length ≤ 9223372036854775807 ∧ ∀ x ∈ l, ok x
section opn
variable {H : Type} {enc : TypeId × Value → H} {P : Program} {W : World} {n : Nat} {α : Type} {t e : TypeId} {d : Kd α} {ok : α → Prop}
theorem opn_int {k : IntKind} (ht : P.underlying t = some (.int k)) : Opn enc P W n t (Kd.int k) (OkI k) := fun cs x h => by
  cases n with
  | zero => simp [DataW.trod] at h
  | succ n =>
    unfold DataW.trod at h
    rw [ht] at h
    split at h <;> simp_all
    exact ⟨_, rfl, h.1.2⟩
theorem opn_bool (ht : P.underlying t = some .bool) : Opn enc P W n t Kd.bool (fun _ => True) := fun cs x h => by
  cases n with
  | zero => simp [DataW.trod] at h
  | succ n =>
    unfold DataW.trod at h
    rw [ht] at h
    split at h <;> simp_all
    rename_i b
    cases b
    · exact .inl rfl
    · exact .inr rfl
theorem opn_string (ht : P.underlying t = some .string) : Opn enc P W n t Kd.string OkS := fun cs x h => by
  cases n with
  | zero => simp [DataW.trod] at h
  | succ n =>
    unfold DataW.trod at h
    rw [ht] at h
    split at h <;> simp_all
    exact ⟨_, rfl, h.1⟩
theorem opn_slice (e' : Nat) (ht : P.underlying t = some (.slice e)) (hc : P.cellsOf e = d.sz) (h : ∀ m, m < n → Opn enc P W m e d ok) : Opn enc P W n t (Kd.slice e' d) (OkL ok) := fun cs x hx => by
  rcases DataW.trod_slice ht hx with ⟨rfl, _⟩ | ⟨a, len, cap, elems, rest, m, rfl, rfl, _, _, hl, hm, hlen, hel, _⟩
  · exact ⟨[], ⟨none, 0, rfl, Nat.le_refl _, rfl, by simp, fun h => by simp at h⟩, by simp [OkL]⟩
  · have key : ∀ q, q ≤ len → ∃ xs : List α, xs.length = q ∧ (∀ x ∈ xs, ok x) ∧ ∀ j p, xs[j]? = some p → ∃ c, c.length = d.sz ∧ d.K W p c ∧ ∀ i u, c[i]? = some u → W.cell? (a.add (j * d.sz + i)) = some u := by
      intro q
      induction q with
      | zero => intro _; exact ⟨[], rfl, by simp, fun j p h => by simp at h⟩
      | succ q ih =>
        intro hq
        obtain ⟨xs, h1, h2, h3⟩ := ih (by omega)
        have hb := hel q (by omega)
        rw [List.getElem?_eq_getElem (by omega)] at hb
        obtain ⟨cs', hcs, htr⟩ := Option.bind_eq_some_iff.1 hb
        obtain ⟨_, hcl, hcell⟩ := World.cells?_some hcs
        obtain ⟨p, hK, hok⟩ := h m (by omega) _ _ htr
        refine ⟨xs ++ [p], by simp [h1], ?_, ?_⟩
        · intro x hx
          rcases List.mem_append.1 hx with hx | hx
          · exact h2 x hx
          · rw [List.mem_singleton.1 hx]; exact hok
        · intro j p' hj
          rcases Nat.lt_or_ge j q with hjq | hjq
          · rw [List.getElem?_append_left (by omega)] at hj
            exact h3 j p' hj
          · rw [List.getElem?_append_right (by omega), h1] at hj
            obtain rfl : j = q := by
              rcases Nat.eq_or_lt_of_le hjq with h | h
              · exact h.symm
              · rw [List.getElem?_eq_none (by simp; omega)] at hj; simp at hj
            simp at hj
            subst hj
            refine ⟨cs', by rw [hcl, hc], hK, fun i u hi => ?_⟩
            have hlt := (List.getElem?_eq_some_iff.1 hi).1
            have := hcell i (by omega)
            rw [hi, hc, add_add] at this
            exact this
    obtain ⟨xs, h1, h2, h3⟩ := key len (Nat.le_refl _)
    have hmx : maxLen = 9223372036854775807 := rfl
    refine ⟨xs, ⟨some a, cap, by rw [h1], by omega, rfl, by omega, fun _ => ⟨a, rfl, h3⟩⟩, by omega, h2⟩
end opn
theorem list4 {α : Type} {cs : List α} (h : cs.length = 4) : ∃ a b c d, cs = [a, b, c, d] := by
  match cs, h with
  | [a, b, c, d], _ => exact ⟨a, b, c, d, rfl⟩
def OkEntry (x : S75) : Prop := OkS x.f0 ∧ OkI .i64 x.f1
inductive OkNode : S48 → Prop
  | mk (x : S48) (h0 : OkI .i64 x.f0) (h1 : OkS x.f1) (h2 : OkI .i64 x.f2) (hl : x.f3.length ≤ 9223372036854775807) (h3 : ∀ y ∈ x.f3, OkNode y) : OkNode x
theorem opnEntry {H : Type} {enc : TypeId × Value → H} {W : World} (n : Nat) : Opn enc Tryz.prog W n 75 k75 OkEntry := fun cs x h => by
  have hu := Tryz.underlying75
  obtain ⟨xs, m, rfl, _, hl, hxs, hf⟩ := DataW.trod_struct hu h
  have e0 := hf 0 _ rfl
  have e1 := hf 1 _ rfl
  have e2 := hf 2 _ rfl
  have e3 := hf 3 _ rfl
  have hlx : xs.length = 4 := hxs
  rw [List.getElem?_eq_getElem (by omega)] at e0 e1 e2 e3
  have c9 : Tryz.prog.cellsOf 9 = 1 := by kernel_rfl
  have c3 : Tryz.prog.cellsOf 3 = 1 := by kernel_rfl
  have c4 : Tryz.prog.cellsOf 4 = 1 := by kernel_rfl
  have c22_ : Tryz.prog.cellsOf 23 = 1 := by kernel_rfl
  replace e0 : DataW.trod enc Tryz.prog W 0 (fun _ => true) true m 9 ((cs.drop 0).take (Tryz.prog.cellsOf 9)) = some xs[0] := e0
  rw [c9] at e0
  replace e1 : DataW.trod enc Tryz.prog W 0 (fun _ => true) true m 3 ((cs.drop 1).take (Tryz.prog.cellsOf 3)) = some xs[1] := e1
  rw [c3] at e1
  replace e2 : DataW.trod enc Tryz.prog W 0 (fun _ => true) true m 4 ((cs.drop 2).take (Tryz.prog.cellsOf 4)) = some xs[2] := e2
  rw [c4] at e2
  replace e3 : DataW.trod enc Tryz.prog W 0 (fun _ => true) true m 4 ((cs.drop 3).take (Tryz.prog.cellsOf 4)) = some xs[3] := e3
  rw [c4] at e3
  obtain ⟨a0, k0, o0⟩ := opn_string (show Tryz.prog.underlying 9 = some .string from by kernel_rfl) _ _ e0
  obtain ⟨a1, k1, o1⟩ := opn_int (show Tryz.prog.underlying 3 = some (.int .i64) from by kernel_rfl) _ _ e1
  obtain ⟨a2, k2, _⟩ := opn_bool (show Tryz.prog.underlying 4 = some .bool from by kernel_rfl) _ _ e2
  obtain ⟨a3, k3, _⟩ := opn_bool (show Tryz.prog.underlying 4 = some .bool from by kernel_rfl) _ _ e3
  have hl4 : cs.length = 4 := hl.trans (by kernel_rfl)
  obtain ⟨u0, u1, u2, u3, rfl⟩ := list4 hl4
  have k0' : [u0] = [Value.string a0] := k0
  have k1' : [u1] = [Value.int .i64 a1] := k1
  have k2' : [u2] = [Value.bool a2] := k2
  have k3' : [u3] = [Value.bool a3] := k3
  simp only [List.cons.injEq, and_true] at k0' k1' k2' k3'
  subst k0' k1' k2' k3'
  exact ⟨⟨a0, a1, a2, a3⟩, k75_mk W _, o0, o1⟩
theorem opnNode {H : Type} {enc : TypeId × Value → H} {W : World} (n : Nat) : Opn enc Tryz.prog W n 48 k48 OkNode := by
  induction n using Nat.strongRecOn with
  | _ n ih =>
  intro cs x h
  have hu := Tryz.underlying48
  obtain ⟨xs, m, rfl, _, hl, hxs, hf⟩ := DataW.trod_struct hu h
  have e0 := hf 0 _ rfl
  have e1 := hf 1 _ rfl
  have e2 := hf 2 _ rfl
  have e3 := hf 3 _ rfl
  have hlx : xs.length = 4 := hxs
  rw [List.getElem?_eq_getElem (by omega)] at e0 e1 e2 e3
  have c9 : Tryz.prog.cellsOf 9 = 1 := by kernel_rfl
  have c3 : Tryz.prog.cellsOf 3 = 1 := by kernel_rfl
  have c4 : Tryz.prog.cellsOf 4 = 1 := by kernel_rfl
  have c22_ : Tryz.prog.cellsOf 23 = 1 := by kernel_rfl
  replace e0 : DataW.trod enc Tryz.prog W 0 (fun _ => true) true m 3 ((cs.drop 0).take (Tryz.prog.cellsOf 3)) = some xs[0] := e0
  rw [c3] at e0
  replace e1 : DataW.trod enc Tryz.prog W 0 (fun _ => true) true m 9 ((cs.drop 1).take (Tryz.prog.cellsOf 9)) = some xs[1] := e1
  rw [c9] at e1
  replace e2 : DataW.trod enc Tryz.prog W 0 (fun _ => true) true m 3 ((cs.drop 2).take (Tryz.prog.cellsOf 3)) = some xs[2] := e2
  rw [c3] at e2
  replace e3 : DataW.trod enc Tryz.prog W 0 (fun _ => true) true m 23 ((cs.drop 3).take (Tryz.prog.cellsOf 23)) = some xs[3] := e3
  rw [c22_] at e3
  obtain ⟨a0, k0, o0⟩ := opn_int (show Tryz.prog.underlying 3 = some (.int .i64) from by kernel_rfl) _ _ e0
  obtain ⟨a1, k1, o1⟩ := opn_string (show Tryz.prog.underlying 9 = some .string from by kernel_rfl) _ _ e1
  obtain ⟨a2, k2, o2⟩ := opn_int (show Tryz.prog.underlying 3 = some (.int .i64) from by kernel_rfl) _ _ e2
  obtain ⟨a3, k3, o3⟩ := opn_slice 48 Tryz.underlying23 (show Tryz.prog.cellsOf 48 = k48.sz from by kernel_rfl) (fun q hq => ih q (by omega)) _ _ e3
  have hl4 : cs.length = 4 := hl.trans (by kernel_rfl)
  obtain ⟨u0, u1, u2, u3, rfl⟩ := list4 hl4
  have k0' : [u0] = [Value.int .i64 a0] := k0
  have k1' : [u1] = [Value.string a1] := k1
  have k2' : [u2] = [Value.int .i64 a2] := k2
  obtain ⟨A, c, k3', hle, hC⟩ := k3
  have k3'' : [u3] = [Value.slice A a3.length c] := k3'
  simp only [List.cons.injEq, and_true] at k0' k1' k2' k3''
  subst k0' k1' k2' k3''
  exact ⟨⟨a0, a1, a2, a3⟩, k48_mk W ⟨a0, a1, a2, a3⟩ hle hC, OkNode.mk _ o0 o1 o2 o3.1 o3.2⟩
section args
variable {H : Type} {enc : TypeId × Value → H} {W : World} {base : Nat} {v : Value} {d : DataW H} {ps : List MemPlace}
set_option maxRecDepth 100000 in
theorem rows_arg {α : Type} {t : TypeId} {kd : Kd α} {ok : α → Prop} {e' : Nat} {e : TypeId} (hu : Tryz.prog.underlying t = some (.slice e)) (ho : ∀ n, Opn enc Tryz.prog W n t (Kd.slice e' kd) (OkL ok)) (hv : Value.okWide Tryz.prog W .any base t v) (h : DataW.Trod enc Tryz.prog W 0 (fun _ => true) true t v d ps) :
    ∃ (l : List α) (A : Option Addr) (c : Nat), v = .slice A l.length c ∧ l.length ≤ c ∧ Kd.C kd W A l.length l ∧ OkL ok l := by
  obtain ⟨a, n, c, rfl⟩ := Go.WideShapes.okWide_slice hu hv
  obtain ⟨m, h⟩ := h
  obtain ⟨l, ⟨A, c', e, hl, hC⟩, hok⟩ := ho m _ _ h
  have e' : [Value.slice a n c] = [Value.slice A l.length c'] := e
  simp only [List.cons.injEq, and_true] at e'
  exact ⟨l, A, c', e', hl, hC, hok⟩
set_option maxRecDepth 100000 in
theorem nodes_arg (hv : Value.okWide Tryz.prog W .any base 23 v) (h : DataW.Trod enc Tryz.prog W 0 (fun _ => true) true 23 v d ps) :
    ∃ (l : List S48) (A : Option Addr) (c : Nat), v = .slice A l.length c ∧ l.length ≤ c ∧ Kd.C k48 W A l.length l ∧ OkL OkNode l :=
  rows_arg (e' := 48) Tryz.underlying23 (fun n => opn_slice 48 Tryz.underlying23 (by kernel_rfl) (fun m _ => opnNode m)) hv h
set_option maxRecDepth 100000 in
theorem entries_arg (hv : Value.okWide Tryz.prog W .any base 22 v) (h : DataW.Trod enc Tryz.prog W 0 (fun _ => true) true 22 v d ps) :
    ∃ (l : List S75) (A : Option Addr) (c : Nat), v = .slice A l.length c ∧ l.length ≤ c ∧ Kd.C k75 W A l.length l ∧ OkL OkEntry l :=
  rows_arg (e' := 75) Tryz.underlying22 (fun n => opn_slice 75 Tryz.underlying22 (by kernel_rfl) (fun m _ => opnEntry m)) hv h
end args
end opn_
end Go.Proofs.YthdppkmmfjaiaaaGreatDoor.G
namespace Go.Proofs.YthdppkmmfjaiaaaGreatDoor.G
open Go.RowKit Go.Proofs.YthdppkmmfjaiaaaGreatDoorW.PrintWords Go.Proofs.YthdppkmmfjaiaaaGreatDoorW.PrintLast Go.Proofs.YthdppkmmfjaiaaaGreatDoorW.PrintMore
attribute [local go_sem] max2_int min2_int max_two min_two max_three min_three max_four min_four
set_option linter.unusedVariables false
set_option linter.unusedSimpArgs false
def slices_Index_string_string.l0 : Nat → List ByteArray → ByteArray → Int → Int → Option (Int)
  | 0, _, _, _, _ => none
  | k + 1, x0, x1, x7, x8 => if x8 < x7 then (if 0 ≤ x8 then (if x8 < (x0.length : Int) then (if x1.toList = (rdOf ByteArray.empty x0 x8).toList then (some x8) else (slices_Index_string_string.l0 k x0 x1 x7 (wrap64 (x8 + 1)))) else (none)) else (none)) else (some (-1))
def slices_Index_string_string.f (k : Nat) (l0 : List ByteArray) (a1 : ByteArray) : Option (Int) := slices_Index_string_string.l0 k l0 a1 (l0.length : Int) 0
set_option maxHeartbeats 8000000 in
set_option maxRecDepth 100000 in
theorem slices_Index_string_string.calls (k : Nat) (A0 : Option Addr) (c0 : Nat) (l0 : List ByteArray) (a1 : ByteArray) (r : Int) (w : World) (hr0 : Kd.C Kd.string w A0 l0.length l0) (hc0 : l0.length ≤ c0) (h : slices_Index_string_string.f k l0 a1 = some r) :
    Calls Tryz.prog 104 #[.slice A0 l0.length c0, .string a1] w fun e w' => e = .returned (.int .i64 r) ∧ Drawn0 w w' := by
  have HR0 := Aside0.mk hr0
  have HC0 := Aside0.mk hc0
  clear hr0 hc0
  have H : (slices_Index_string_string.l0 k l0 a1 (l0.length : Int) 0) = some r := h
  clear h
  have H' := Aside0.mk H
  clear H
  go_enter Tryz.func104, Tryz.ntmps104
  go_wp2
  go_loopg [8] k (fun kq v8 w' => ∃ (x8_1 : Int), v8 = .int .i64 x8_1 ∧ Aside0 (slices_Index_string_string.l0 kq l0 a1 (l0.length : Int) x8_1 = some r) ∧ Aside0 (kq ≤ k) ∧ Drawn0 w w')
  case atStart => exact ⟨(0), (by first | rfl | (simp; done) | (simp [*]; done)), H', ⟨Nat.le_refl _⟩, by repeat (first | exact Drawn0.refl _ | apply Drawn0.step)⟩
  case round =>
    clear H'
    try clear c1
    try clear p2
    obtain ⟨x8_1, rfl, HA, HK1, ⟨m1, rfl⟩⟩ := hrel
    cases gk with
    | zero => exact absurd HA.out (by simp [slices_Index_string_string.l0])
    | succ k1 =>
      have H := HA.out
      clear HA
      simp only [slices_Index_string_string.l0] at H
      by_cases c3 : x8_1 < (l0.length : Int)
      · rw [if_pos c3] at H
        have c3b0 : decide (x8_1 < (l0.length : Int)) = true := decide_eq_true c3
        clear c3
        by_cases c4 : 0 ≤ x8_1
        · rw [if_pos c4] at H
          have c4b0 : decide (0 ≤ x8_1) = true := decide_eq_true c4
          clear c4
          by_cases c5 : x8_1 < (l0.length : Int)
          · rw [if_pos c5] at H
            have c5b0 : decide (x8_1 < (l0.length : Int)) = true := decide_eq_true c5
            clear c5
            by_cases c6 : a1.toList = (rdOf ByteArray.empty l0 x8_1).toList
            · rw [if_pos c6] at H
              have c6b0 : (a1.toList == (rdOf ByteArray.empty l0 x8_1).toList) = true := beq_iff_eq.mpr c6
              have c6b1 : (a1.toList != (rdOf ByteArray.empty l0 x8_1).toList) = false := bne_eq_false_iff_eq.mpr c6
              clear c6
              obtain rfl := Option.some.inj H
              have p101 : 0 ≤ (x8_1 : Int) := of_decide_eq_true (by first | (with_reducible assumption) | assumption)
              have q101 : x8_1 < (l0.length : Int) := of_decide_eq_true (by first | (with_reducible assumption) | assumption)
              obtain ⟨ad101, e101, hx101_0⟩ := Kd.at_string HR0.out x8_1 p101 q101
              cases e101
              replace p101 := eq_true p101
              replace q101 := eq_true q101
              go_wp2
              go_ret
              exact ⟨by first | rfl | (simp; done) | (simp [*]; done), by repeat (first | exact Drawn0.refl _ | apply Drawn0.step)⟩
            · rw [if_neg c6] at H
              have c6b0 : (a1.toList == (rdOf ByteArray.empty l0 x8_1).toList) = false := beq_eq_false_iff_ne.mpr c6
              have c6b1 : (a1.toList != (rdOf ByteArray.empty l0 x8_1).toList) = true := bne_iff_ne.mpr c6
              have H' := Aside0.mk H
              clear H
              have p101 : 0 ≤ (x8_1 : Int) := of_decide_eq_true (by first | (with_reducible assumption) | assumption)
              have q101 : x8_1 < (l0.length : Int) := of_decide_eq_true (by first | (with_reducible assumption) | assumption)
              obtain ⟨ad101, e101, hx101_0⟩ := Kd.at_string HR0.out x8_1 p101 q101
              cases e101
              replace p101 := eq_true p101
              replace q101 := eq_true q101
              go_wp2
              go_roundg k1
              case measure => have := HK1.out; omega
              case rel => exact ⟨(wrap64 (x8_1 + 1)), (by first | rfl | (simp; done) | (simp [*]; done)), H', ⟨by have := HK1.out; omega⟩, by repeat (first | exact Drawn0.refl _ | apply Drawn0.step)⟩
          · rw [if_neg c5] at H
            exact absurd H (by simp)
        · rw [if_neg c4] at H
          exact absurd H (by simp)
      · rw [if_neg c3] at H
        have c3b0 : decide (x8_1 < (l0.length : Int)) = false := decide_eq_false c3
        clear c3
        obtain rfl := Option.some.inj H
        go_wp2
        go_ret
        exact ⟨by first | rfl | (simp; done) | (simp [*]; done), by repeat (first | exact Drawn0.refl _ | apply Drawn0.step)⟩
end Go.Proofs.YthdppkmmfjaiaaaGreatDoor.G
namespace Go.Proofs.YthdppkmmfjaiaaaGreatDoor.G
open Go.RowKit Go.Proofs.YthdppkmmfjaiaaaGreatDoorW.PrintWords Go.Proofs.YthdppkmmfjaiaaaGreatDoorW.PrintLast Go.Proofs.YthdppkmmfjaiaaaGreatDoorW.PrintMore
attribute [local go_sem] max2_int min2_int max_two min_two max_three min_three max_four min_four
set_option linter.unusedVariables false
set_option linter.unusedSimpArgs false
def slices_Contains_string_string.f (k : Nat) (l0 : List ByteArray) (a1 : ByteArray) : Option (Bool) := (slices_Index_string_string.f k l0 a1).bind fun t102 => (some (decide (t102 ≥ 0)))
set_option maxHeartbeats 8000000 in
set_option maxRecDepth 100000 in
theorem slices_Contains_string_string.calls (k : Nat) (A0 : Option Addr) (c0 : Nat) (l0 : List ByteArray) (a1 : ByteArray) (r : Bool) (w : World) (hr0 : Kd.C Kd.string w A0 l0.length l0) (hc0 : l0.length ≤ c0) (h : slices_Contains_string_string.f k l0 a1 = some r) :
    Calls Tryz.prog 94 #[.slice A0 l0.length c0, .string a1] w fun e w' => e = .returned (.bool r) ∧ Drawn0 w w' := by
  have HR0 := Aside0.mk hr0
  have HC0 := Aside0.mk hc0
  clear hr0 hc0
  have H : ((slices_Index_string_string.f k l0 a1).bind fun t102 => (some (decide (t102 ≥ 0)))) = some r := h
  clear h
  replace H := Option.bind_eq_some_iff.mp H
  obtain ⟨t102, A30, H⟩ := H
  replace H : (some (decide (t102 ≥ 0))) = some r := H
  have A3 := Aside0.mk A30
  clear A30
  obtain rfl := Option.some.inj H
  go_enter Tryz.func94, Tryz.ntmps94
  go_wp2_with (first | ((with_reducible refine gate_callee (f := 104) rfl ?_); refine goesL_ (some 7) rfl rfl Tryz.func104 (by kernel_rfl) rfl #[.slice A0 l0.length c0, .string a1] rfl (by (try simp only [List.map_toArray, List.map_cons, List.map_nil]); first | done | rfl | (simp only [List.length_drop, List.length_take]; rfl)) ?_; (with_reducible refine (slices_Index_string_string.calls k _ _ l0 a1 t102 _ ?side1 ?side2 A3.out).mono ?_); (case side1 => repeat (first | exact HR0.out | (with_reducible refine Kd.C_alloc ?_ _) | (with_reducible refine Kd.C_drewN ?_ _) | (with_reducible refine Kd.C_drew ?_))); (case side2 => exact HC0.out); rintro e w' ⟨rfl, ⟨nd, rfl⟩⟩; refine ⟨_, rfl, ?_⟩))
  go_ret
  exact ⟨by first | rfl | (simp; done) | (simp [*]; done), by repeat (first | exact Drawn0.refl _ | apply Drawn0.step)⟩
end Go.Proofs.YthdppkmmfjaiaaaGreatDoor.G
namespace Go.Proofs.YthdppkmmfjaiaaaGreatDoor.G
open Go.RowKit Go.Proofs.YthdppkmmfjaiaaaGreatDoorW.PrintWords Go.Proofs.YthdppkmmfjaiaaaGreatDoorW.PrintLast Go.Proofs.YthdppkmmfjaiaaaGreatDoorW.PrintMore
attribute [local go_sem] max2_int min2_int max_two min_two max_three min_three max_four min_four
set_option linter.unusedVariables false
set_option linter.unusedSimpArgs false
def node_accent.f (k : Nat) (a0 : ByteArray) : Option (Bool) := (slices_Contains_string_string.f k (([(⟨#[104, 97, 116]⟩ : ByteArray), (⟨#[98, 97, 114]⟩ : ByteArray), (⟨#[118, 101, 99]⟩ : ByteArray), (⟨#[100, 111, 116]⟩ : ByteArray), (⟨#[116, 105, 108, 100, 101]⟩ : ByteArray), (⟨#[99, 104, 101, 99, 107]⟩ : ByteArray)] : List ByteArray)) a0).bind fun t106 => (some t106)
set_option maxHeartbeats 8000000 in
set_option maxRecDepth 100000 in
theorem node_accent.calls (k : Nat) (a0 : ByteArray) (r : Bool) (w : World) (h : node_accent.f k a0 = some r) :
    Calls Tryz.prog 84 #[.string a0] w fun e w' => e = .returned (.bool r) ∧ Below w.heap.size w w' := by
  have HB := Aside0.mk (Below.refl w.heap.size w)
  have H : ((slices_Contains_string_string.f k (([(⟨#[104, 97, 116]⟩ : ByteArray), (⟨#[98, 97, 114]⟩ : ByteArray), (⟨#[118, 101, 99]⟩ : ByteArray), (⟨#[100, 111, 116]⟩ : ByteArray), (⟨#[116, 105, 108, 100, 101]⟩ : ByteArray), (⟨#[99, 104, 101, 99, 107]⟩ : ByteArray)] : List ByteArray)) a0).bind fun t106 => (some t106)) = some r := h
  clear h
  obtain ⟨y103, hy103⟩ : ∃ y_ : List ByteArray, y_ = (([(⟨#[104, 97, 116]⟩ : ByteArray), (⟨#[98, 97, 114]⟩ : ByteArray), (⟨#[118, 101, 99]⟩ : ByteArray), (⟨#[100, 111, 116]⟩ : ByteArray), (⟨#[116, 105, 108, 100, 101]⟩ : ByteArray), (⟨#[99, 104, 101, 99, 107]⟩ : ByteArray)] : List ByteArray)) := ⟨_, rfl⟩
  replace H : ((slices_Contains_string_string.f k y103 a0).bind fun t106 => (some t106)) = some r := by first | (rw [hy103]; with_reducible exact H) | (have H2_ := (Option.bind_some _ _).symm.trans H; rw [hy103]; with_reducible exact H2_) | (have H2_ := (Option.bind_some _ _).symm.trans H; with_reducible exact H2_) | with_reducible exact H | (rw [hy103]; exact H) | exact H
  have Ny103 := Aside0.mk hy103
  clear hy103
  replace H := Option.bind_eq_some_iff.mp H
  obtain ⟨t106, A20, H⟩ := H
  replace H : (some t106) = some r := H
  have A2 := Aside0.mk A20
  clear A20
  obtain rfl := Option.some.inj H
  go_enter Tryz.func84, Tryz.ntmps84
  go_wp2_with (first | ((with_reducible refine gate_dst (N := 3) rfl ?_); refine Kd.R_lit Kd.string _ 9 ?hg (N := 3) ?hd (xs := ([(⟨#[104, 97, 116]⟩ : ByteArray), (⟨#[98, 97, 114]⟩ : ByteArray), (⟨#[118, 101, 99]⟩ : ByteArray), (⟨#[100, 111, 116]⟩ : ByteArray), (⟨#[116, 105, 108, 100, 101]⟩ : ByteArray), (⟨#[99, 104, 101, 99, 107]⟩ : ByteArray)] : List ByteArray)) (inner := [.string (⟨#[104, 97, 116]⟩ : ByteArray), .string (⟨#[98, 97, 114]⟩ : ByteArray), .string (⟨#[118, 101, 99]⟩ : ByteArray), .string (⟨#[100, 111, 116]⟩ : ByteArray), .string (⟨#[116, 105, 108, 100, 101]⟩ : ByteArray), .string (⟨#[99, 104, 101, 99, 107]⟩ : ByteArray)]) (ok := fun _ => True) (okp := fun _ => True) ?hr ?hp (fun _ hk => hk) trivial (Below.refl _ _) (Nat.le_refl _) (by simp) ?_; (case hd => rfl); (case hg => rfl); (case hr => first | (go_simp; done) | (go_simp; rfl)); (case hp => exact (Reps.one (show Kd.M Kd.string _ _ _ (⟨#[104, 97, 116]⟩ : ByteArray) [.string (⟨#[104, 97, 116]⟩ : ByteArray)] from rfl) (Reps.one (show Kd.M Kd.string _ _ _ (⟨#[98, 97, 114]⟩ : ByteArray) [.string (⟨#[98, 97, 114]⟩ : ByteArray)] from rfl) (Reps.one (show Kd.M Kd.string _ _ _ (⟨#[118, 101, 99]⟩ : ByteArray) [.string (⟨#[118, 101, 99]⟩ : ByteArray)] from rfl) (Reps.one (show Kd.M Kd.string _ _ _ (⟨#[100, 111, 116]⟩ : ByteArray) [.string (⟨#[100, 111, 116]⟩ : ByteArray)] from rfl) (Reps.one (show Kd.M Kd.string _ _ _ (⟨#[116, 105, 108, 100, 101]⟩ : ByteArray) [.string (⟨#[116, 105, 108, 100, 101]⟩ : ByteArray)] from rfl) (Reps.one (show Kd.M Kd.string _ _ _ (⟨#[99, 104, 101, 99, 107]⟩ : ByteArray) [.string (⟨#[99, 104, 101, 99, 107]⟩ : ByteArray)] from rfl) (Reps.none _ _)))))))); intro v104 w3 ho4 hb hg_ hnew_; clear hg_ hnew_; (first | rw [← Ny103.out] at ho4 | (simp only [Int.reduceToNat] at ho4; rw [← Ny103.out] at ho4)); have n0_ := Aside0.mk (Kd.R_lower ho4 (below_size (by repeat (first | (with_reducible first | exact HB.out | apply below_alloc | apply pw_below_drewN | apply below_drew1) | exact HB.out)))); have n1_ := Aside0.mk (below_step (by repeat (first | (with_reducible first | exact HB.out | apply below_alloc | apply pw_below_drewN | apply below_drew1) | exact HB.out)) hb); clear HB; have HO105 := n0_; have HB := n1_; clear n0_ n1_; clear hb ho4; obtain ⟨Ao5, co5, eo5⟩ := Kd.R_slice HO105.out; subst eo5) | ((with_reducible refine gate_callee (f := 94) rfl ?_); refine goesL_ (some 5) rfl rfl Tryz.func94 (by kernel_rfl) rfl #[.slice Ao5 y103.length co5, .string a0] rfl (by (try simp only [List.map_toArray, List.map_cons, List.map_nil]); first | done | rfl | (simp only [List.length_drop, List.length_take]; rfl)) ?_; (with_reducible refine (slices_Contains_string_string.calls k _ _ y103 a0 t106 _ ?side1 ?side2 A2.out).mono ?_); (case side1 => repeat (first | exact (Kd.R_reads' HO105.out).2.2 | (with_reducible refine Kd.C_alloc ?_ _) | (with_reducible refine Kd.C_drewN ?_ _) | (with_reducible refine Kd.C_drew ?_))); (case side2 => exact (Kd.R_reads' HO105.out).2.1); rintro e w' ⟨rfl, ⟨nd, rfl⟩⟩; refine ⟨_, rfl, ?_⟩))
  go_ret
  exact ⟨by first | rfl | (simp [errW_none, errW_some] <;> rfl) | (simp [*, errW_none, errW_some] <;> rfl), by repeat (first | (with_reducible first | exact HB.out | apply below_alloc | apply pw_below_drewN | apply below_drew1) | exact HB.out)⟩
end Go.Proofs.YthdppkmmfjaiaaaGreatDoor.G
namespace Go.Proofs.YthdppkmmfjaiaaaGreatDoor.G
open Go.RowKit Go.Proofs.YthdppkmmfjaiaaaGreatDoorW.PrintWords Go.Proofs.YthdppkmmfjaiaaaGreatDoorW.PrintLast Go.Proofs.YthdppkmmfjaiaaaGreatDoorW.PrintMore
attribute [local go_sem] max2_int min2_int max_two min_two max_three min_three max_four min_four
set_option linter.unusedVariables false
set_option linter.unusedSimpArgs false
def node_letter.f (a0 : Int) : Option (Bool) := if a0 ≥ 97 then (if a0 ≤ 122 then (some true) else (if a0 ≥ 65 then (some (decide (a0 ≤ 90))) else (some false))) else (if a0 ≥ 65 then (some (decide (a0 ≤ 90))) else (some false))
set_option maxHeartbeats 8000000 in
set_option maxRecDepth 100000 in
theorem node_letter.calls (a0 : Int) (r : Bool) (w : World) (h : node_letter.f a0 = some r) :
    Calls Tryz.prog 92 #[.int .u8 a0] w fun e w' => e = .returned (.bool r) ∧ Drawn0 w w' := by
  have H : (if a0 ≥ 97 then (if a0 ≤ 122 then (some true) else (if a0 ≥ 65 then (some (decide (a0 ≤ 90))) else (some false))) else (if a0 ≥ 65 then (some (decide (a0 ≤ 90))) else (some false))) = some r := h
  clear h
  by_cases c2 : a0 ≥ 97
  · rw [if_pos c2] at H
    have c2b0 : decide (97 ≤ a0) = true := decide_eq_true c2
    clear c2
    by_cases c3 : a0 ≤ 122
    · rw [if_pos c3] at H
      have c3b0 : decide (a0 ≤ 122) = true := decide_eq_true c3
      clear c3
      obtain rfl := Option.some.inj H
      go_enter Tryz.func92, Tryz.ntmps92
      go_wp2
      go_ret
      exact ⟨by first | rfl | (simp; done) | (simp [*]; done), by repeat (first | exact Drawn0.refl _ | apply Drawn0.step)⟩
    · rw [if_neg c3] at H
      have c3b0 : decide (a0 ≤ 122) = false := decide_eq_false c3
      clear c3
      by_cases c4 : a0 ≥ 65
      · rw [if_pos c4] at H
        have c4b0 : decide (65 ≤ a0) = true := decide_eq_true c4
        clear c4
        obtain rfl := Option.some.inj H
        go_enter Tryz.func92, Tryz.ntmps92
        go_wp2
        go_ret
        exact ⟨by first | rfl | (simp; done) | (simp [*]; done), by repeat (first | exact Drawn0.refl _ | apply Drawn0.step)⟩
      · rw [if_neg c4] at H
        have c4b0 : decide (65 ≤ a0) = false := decide_eq_false c4
        clear c4
        obtain rfl := Option.some.inj H
        go_enter Tryz.func92, Tryz.ntmps92
        go_wp2
        go_ret
        exact ⟨by first | rfl | (simp; done) | (simp [*]; done), by repeat (first | exact Drawn0.refl _ | apply Drawn0.step)⟩
  · rw [if_neg c2] at H
    have c2b0 : decide (97 ≤ a0) = false := decide_eq_false c2
    clear c2
    by_cases c5 : a0 ≥ 65
    · rw [if_pos c5] at H
      have c5b0 : decide (65 ≤ a0) = true := decide_eq_true c5
      clear c5
      obtain rfl := Option.some.inj H
      go_enter Tryz.func92, Tryz.ntmps92
      go_wp2
      go_ret
      exact ⟨by first | rfl | (simp; done) | (simp [*]; done), by repeat (first | exact Drawn0.refl _ | apply Drawn0.step)⟩
    · rw [if_neg c5] at H
      have c5b0 : decide (65 ≤ a0) = false := decide_eq_false c5
      clear c5
      obtain rfl := Option.some.inj H
      go_enter Tryz.func92, Tryz.ntmps92
      go_wp2
      go_ret
      exact ⟨by first | rfl | (simp; done) | (simp [*]; done), by repeat (first | exact Drawn0.refl _ | apply Drawn0.step)⟩
end Go.Proofs.YthdppkmmfjaiaaaGreatDoor.G
namespace Go.Proofs.YthdppkmmfjaiaaaGreatDoor.G
open Go.RowKit Go.Proofs.YthdppkmmfjaiaaaGreatDoorW.PrintWords Go.Proofs.YthdppkmmfjaiaaaGreatDoorW.PrintLast Go.Proofs.YthdppkmmfjaiaaaGreatDoorW.PrintMore
attribute [local go_sem] max2_int min2_int max_two min_two max_three min_three max_four min_four
set_option linter.unusedVariables false
set_option linter.unusedSimpArgs false
def stringslite_Index.f (a0 a1 : ByteArray) : Option Int := match a1.data.toList with
  | [c] => some (Lib.indexByte a0.data.toList c)
  | _ => none
theorem stringslite_Index.calls (a0 : ByteArray) (a1 : ByteArray) (r : Int) (w : World) (h : stringslite_Index.f a0 a1 = some r) :
    Calls Tryz.prog 111 #[.string a0, .string a1] w fun e w' => e = .returned (.int .i64 r) ∧ Drawn0 w w' := by
  unfold stringslite_Index.f at h
  rcases a1 with ⟨⟨l⟩⟩
  rcases l with _ | ⟨c, _ | ⟨d, l⟩⟩
  · simp at h
  · simp at h
    subst h
    exact (Any.stringslite_Index_one Tryz.lays219 a0 c w).mono fun e w' ⟨he, hw⟩ => ⟨he, hw ▸ Drawn0.refl w⟩
  · simp at h
end Go.Proofs.YthdppkmmfjaiaaaGreatDoor.G
namespace Go.Proofs.YthdppkmmfjaiaaaGreatDoor.G
open Go.RowKit Go.Proofs.YthdppkmmfjaiaaaGreatDoorW.PrintWords Go.Proofs.YthdppkmmfjaiaaaGreatDoorW.PrintLast Go.Proofs.YthdppkmmfjaiaaaGreatDoorW.PrintMore
attribute [local go_sem] max2_int min2_int max_two min_two max_three min_three max_four min_four
set_option linter.unusedVariables false
set_option linter.unusedSimpArgs false
def strings_Index.f (a0 : ByteArray) (a1 : ByteArray) : Option (Int) := (stringslite_Index.f a0 a1).bind fun t107 => (some t107)
set_option maxHeartbeats 8000000 in
set_option maxRecDepth 100000 in
theorem strings_Index.calls (a0 : ByteArray) (a1 : ByteArray) (r : Int) (w : World) (h : strings_Index.f a0 a1 = some r) :
    Calls Tryz.prog 103 #[.string a0, .string a1] w fun e w' => e = .returned (.int .i64 r) ∧ Drawn0 w w' := by
  have H : ((stringslite_Index.f a0 a1).bind fun t107 => (some t107)) = some r := h
  clear h
  replace H := Option.bind_eq_some_iff.mp H
  obtain ⟨t107, A30, H⟩ := H
  replace H : (some t107) = some r := H
  have A3 := Aside0.mk A30
  clear A30
  obtain rfl := Option.some.inj H
  go_enter Tryz.func103, Tryz.ntmps103
  go_wp2_with (first | ((with_reducible refine gate_callee (f := 111) rfl ?_); refine goesL_ (some 7) rfl rfl Tryz.func111 (by kernel_rfl) rfl #[.string a0, .string a1] rfl (by (try simp only [List.map_toArray, List.map_cons, List.map_nil]); first | done | rfl | (simp only [List.length_drop, List.length_take]; rfl)) ?_; (with_reducible refine (stringslite_Index.calls a0 a1 t107 _ A3.out).mono ?_); rintro e w' ⟨rfl, ⟨nd, rfl⟩⟩; refine ⟨_, rfl, ?_⟩))
  go_ret
  exact ⟨by first | rfl | (simp; done) | (simp [*]; done), by repeat (first | exact Drawn0.refl _ | apply Drawn0.step)⟩
end Go.Proofs.YthdppkmmfjaiaaaGreatDoor.G
