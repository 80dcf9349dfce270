-- Written by pack2.py: this session's texts and the printer's, pruned.
import Derived.Test.YtagkhoeidjlahaaDoorCSe2
import Derived.Test.YtagkhoeidjlahaaDoorCSe40
import Derived.Test.YtagkhoeidjlahaaDoorRows
import Derived.Test.YtagkhoeidjlahaaDoorTie
import Derived.Test.YtagkhoeidjlahaaDoorCards
import Derived.WalkKit
import Derived.ProofKit
import Derived.OpenShut
import Derived.ShutString
import Derived.ChangeOld
import Derived.Below
import Derived.SizedLaws
import Derived.LaidMore
import Derived.Lay
import Derived.SevenTiedAt
import Derived.Stop.Joined
namespace Go.Proofs.YtagkhoeidjlahaaDoor.selectionEnds
open Go.ChangeShapes Go.WideShapes Go.ChangeAt Go.RowKit G
set_option linter.unusedVariables false
theorem own : ownKnob Tryd.prog.godebug = none := by kernel_rfl
theorem laidOut : laidOutB Tryd.prog = true := by kernel_rfl
set_option maxRecDepth 100000 in
theorem lifted (os : Os) (started : os.Started) (H : Type) (enc : TypeId × Value → H) :
  ReturnsInHanded {} Tryd.checked os 16 .any (fun w args => (Rows.selectionEndsSpec.pre enc Tryd.prog Tryd.f16 Rows.selectionEndsRow.domain false w args ∧ laidMetH Tryd.prog Rows.selectionEndsRow.laid w) ∧ sizedMet enc Tryd.prog Tryd.f16 (OpenSpec.ofChange Rows.selectionEndsSpec) false w args)
   (Rows.selectionEndsSpec.post enc Tryd.prog Tryd.f16 false true false false) := by
 refine returnsInHanded_of_change_and (C := Tryd.checked) (X := fun w _ => laidMetH Tryd.prog Rows.selectionEndsRow.laid w) (fun _ _ _ hh h => h.of_heap hh) own started (by kernel_rfl) Tryd.func16
  (ChangeSpec.witness_shaped (enc := enc) (C := Tryd.checked) (os := os) (X := fun w _ => laidMetH Tryd.prog Rows.selectionEndsRow.laid w) false (World.laidAll Tryd.prog os Rows.selectionEndsRow.laid) #[.agg #[.int .i64 0, .string ⟨#[]⟩, .int .i64 0, .slice none 0 0], .agg #[.slice none 0 0, .int .i64 0, .int .i64 0]] 8 (World.laidAll_os _ _ _)
   (World.shaped_of_ZipB (by kernel_rfl) (by kernel_rfl)) (by kernel_rfl) (by kernel_rfl) (by kernel_rfl)
   (by rw [MakeChecks.laidMetH_plain _ _ _ (by kernel_rfl)]; exact laidMet_laidAll _ (by kernel_rfl) (by kernel_rfl))) ?_
 intro W base args ds gs before hval0 hW hc _ hL _
 have hval : ∀ (j : Nat) t v, Tryd.f16.params[j]? = some t → args[j]? = some v → Value.okWide Tryd.prog W .any base t v := hval0
 have hW' := hW
 obtain ⟨p, q, hA0, hV, rfl, _, _⟩ := hW
 have hA : DataW.TrodAll enc Tryd.prog W 0 (fun _ => true) true Tryd.f16.params.toList args.toList ds p := hA0
 rw [Tryd.params16] at hA hval
 obtain ⟨v0, vs0, d0, ds0, p0, q0, hargs, rfl, rfl, h0, r0⟩ := trodAll_cons hA
 obtain ⟨v1, vs1, d1, ds1, p1, q1, rfl, rfl, rfl, h1, r1⟩ := trodAll_cons r0
 obtain ⟨rfl, rfl, rfl⟩ := trodAll_nil r1
 obtain rfl : args = #[v0, v1] := by cases args; simp_all
 obtain ⟨rfl, rfl⟩ := trodVars_none hV
 have k0 := h0
 have lt0 : ∀ x ∈ p0, x.block < W.heap.size := by obtain ⟨m, hm⟩ := k0; exact DataW.trod_lt m _ _ _ hm
 obtain ⟨x0, A0, c0, rfl, le0, C0, o0⟩ := node_arg (hval 0 36 v0 rfl rfl) h0
 have k1 := h1
 have lt1 : ∀ x ∈ p1, x.block < W.heap.size := by obtain ⟨m, hm⟩ := k1; exact DataW.trod_lt m _ _ _ hm
 obtain ⟨x1, A1, c1, rfl, le1, C1, o1⟩ := range_arg (hval 1 54 v1 rfl rfl) h1
 clear hA0 hval0
 obtain ⟨k, hk⟩ := G.Pure.SelectionEnds x0 x1 o0 o1
 refine (vinculumlaw11_SelectionEnds.calls k x0.f0 x0.f1 x0.f2 A0 c0 x0.f3 A1 c1 x1.1 x1.2.1 x1.2.2 true W C0 le0 C1 le1 hk).mono fun e W' ⟨he, bel⟩ => ?_
 subst he
 exact ⟨_, rfl, _, _, _, [], _, [], hW', trodAll_mk1 (shut_bool Tryd.underlying4 _), (trodAll_cons_mk (Below.trod laidOut (by kernel_rfl) (of_decide_eq_true (by kernel_rfl)) k0 bel lt0) (trodAll_cons_mk (Below.trod laidOut (by kernel_rfl) (of_decide_eq_true (by kernel_rfl)) k1 bel lt1) trodAll_mk0)), rfl, bel.frame _, fun h => by cases h⟩
theorem holds : Rows.SelectionEndsSaid :=
 OpenClaim.holds_of_wide 16 Tryd.f16 rfl rfl rfl rfl rfl rfl rfl ⟨rfl, rfl, rfl, rfl, rfl⟩ rfl rfl rfl rfl rfl (by kernel_rfl) Tryd.func16 (by kernel_rfl)
  (of_decide_eq_true (by kernel_rfl)) (by unfold Func.isWrapper; first | (rw [if_pos (by decide +kernel)]; kernel_rfl) | (rw [if_neg (by decide +kernel)]; exact ⟨rfl, rfl⟩))
  (fun os started H enc _ => lifted os started H enc)
theorem card : Rows.SelectionEndsCardSaid :=
 Claim7.holds_tied_plain_at .later [] [.data, .pinned] true (true, "c39d0df16196e9f8f3819fe85171d6b94f20910c6b42b30e9fe380aa6e06d008") false holds (fun _ h => by cases h) (by kernel_rfl) (fun _ h => by cases h) selectionEnds_row_tie rfl ⟨rfl, rfl⟩ (by kernel_rfl) rfl
  (fun f fn hf hfn => by
   obtain rfl : f = 16 := Option.some.inj ((show Tryd.prog.funcNamed "vinculum/vinculumlaw11.SelectionEnds" = some 16 by kernel_rfl).symm.trans hf) |>.symm
   obtain rfl : fn = Tryd.f16 := (Option.some.inj (Tryd.func16.symm.trans hfn)).symm
   exact ⟨by kernel_rfl, fun j t ht => by
    rw [Tryd.params16] at ht
    have hm : t ∈ [36, 54] := by simpa using Array.mem_of_getElem? ht
    have hall : ([36, 54].all fun u => !Tryd.prog.wantsStandIn u) = true := by kernel_rfl
    exact (show Tryd.prog.wantsStandIn t = false by simpa using List.all_eq_true.1 hall t hm)⟩)
  (by kernel_rfl)
end Go.Proofs.YtagkhoeidjlahaaDoor.selectionEnds
namespace Go.Proofs.YtagkhoeidjlahaaDoor
theorem selectionEnds_card : Rows.SelectionEndsCardSaid := selectionEnds.card
#print axioms selectionEnds_card
end Go.Proofs.YtagkhoeidjlahaaDoor
