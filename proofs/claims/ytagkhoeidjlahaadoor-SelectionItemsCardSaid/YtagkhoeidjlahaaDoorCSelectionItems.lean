-- Written by pack2.py, a program of this session: this session's texts and those that the kit's printer wrote for this claim, pruned to what the claims use.
import Derived.Test.YtagkhoeidjlahaaDoorCSi2
import Derived.Test.YtagkhoeidjlahaaDoorCSi36
import Derived.Test.YtagkhoeidjlahaaDoorRows
import Derived.Test.YtagkhoeidjlahaaDoorTie
import Derived.Test.YtagkhoeidjlahaaDoorCards
import Derived.WalkKit
import Derived.ProofKit
import Derived.OpenShut
import Derived.ShutString
import Derived.ChangeOld
import Derived.Below
import Derived.SizedLaws
import Derived.LaidMore
import Derived.Lay
import Derived.SevenTiedAt
import Derived.Stop.Joined
namespace Go.Proofs.YtagkhoeidjlahaaDoor.selectionItems
open Go.ChangeShapes Go.WideShapes Go.ChangeAt Go.RowKit G
set_option linter.unusedVariables false
theorem own : ownKnob Tryd.prog.godebug = none := by kernel_rfl
theorem laidOut : laidOutB Tryd.prog = true := by kernel_rfl
set_option maxRecDepth 100000 in
theorem lifted (os : Os) (started : os.Started) (H : Type) (enc : TypeId × Value → H) :
  ReturnsInHanded {} Tryd.checked os 15 .any (fun w args => (Rows.selectionItemsSpec.pre enc Tryd.prog Tryd.f15 Rows.selectionItemsRow.domain false w args ∧ laidMetH Tryd.prog Rows.selectionItemsRow.laid w) ∧ sizedMet enc Tryd.prog Tryd.f15 (OpenSpec.ofChange Rows.selectionItemsSpec) false w args)
   (Rows.selectionItemsSpec.post enc Tryd.prog Tryd.f15 false true false false) := by
 refine returnsInHanded_of_change_and (C := Tryd.checked) (X := fun w _ => laidMetH Tryd.prog Rows.selectionItemsRow.laid w) (fun _ _ _ hh h => h.of_heap hh) own started (by kernel_rfl) Tryd.func15
  (ChangeSpec.witness_shaped (enc := enc) (C := Tryd.checked) (os := os) (X := fun w _ => laidMetH Tryd.prog Rows.selectionItemsRow.laid w) false (World.laidAll Tryd.prog os Rows.selectionItemsRow.laid) #[.agg #[.int .i64 0, .string ⟨#[]⟩, .int .i64 0, .slice none 0 0], .agg #[.slice none 0 0, .int .i64 0, .int .i64 0]] 8 (World.laidAll_os _ _ _)
   (World.shaped_of_ZipB (by kernel_rfl) (by kernel_rfl)) (by kernel_rfl) (by kernel_rfl) (by kernel_rfl)
   (by rw [MakeChecks.laidMetH_plain _ _ _ (by kernel_rfl)]; exact laidMet_laidAll _ (by kernel_rfl) (by kernel_rfl))) ?_
 intro W base args ds gs before hval0 hW hc _ hL _
 have hval : ∀ (j : Nat) t v, Tryd.f15.params[j]? = some t → args[j]? = some v → Value.okWide Tryd.prog W .any base t v := hval0
 have hW' := hW
 obtain ⟨p, q, hA0, hV, rfl, _, _⟩ := hW
 have hA : DataW.TrodAll enc Tryd.prog W 0 (fun _ => true) true Tryd.f15.params.toList args.toList ds p := hA0
 rw [Tryd.params15] at hA hval
 obtain ⟨v0, vs0, d0, ds0, p0, q0, hargs, rfl, rfl, h0, r0⟩ := trodAll_cons hA
 obtain ⟨v1, vs1, d1, ds1, p1, q1, rfl, rfl, rfl, h1, r1⟩ := trodAll_cons r0
 obtain ⟨rfl, rfl, rfl⟩ := trodAll_nil r1
 obtain rfl : args = #[v0, v1] := by cases args; simp_all
 obtain ⟨rfl, rfl⟩ := trodVars_none hV
 have k0 := h0
 have lt0 : ∀ x ∈ p0, x.block < W.heap.size := by obtain ⟨m, hm⟩ := k0; exact DataW.trod_lt m _ _ _ hm
 obtain ⟨x0, A0, c0, rfl, le0, C0, o0⟩ := node_arg (hval 0 36 v0 rfl rfl) h0
 have k1 := h1
 have lt1 : ∀ x ∈ p1, x.block < W.heap.size := by obtain ⟨m, hm⟩ := k1; exact DataW.trod_lt m _ _ _ hm
 obtain ⟨x1, A1, c1, rfl, le1, C1, o1⟩ := range_arg (hval 1 54 v1 rfl rfl) h1
 clear hA0 hval0
 obtain ⟨k, hk⟩ := G.Pure.SelectionItems x0 x1 o0 o1
 refine (vinculumlaw11_SelectionItems.calls k x0.f0 x0.f1 x0.f2 A0 c0 x0.f3 A1 c1 x1.1 x1.2.1 x1.2.2 true W C0 le0 C1 le1 hk).mono fun e W' ⟨he, bel⟩ => ?_
 subst he
 exact ⟨_, rfl, _, _, _, [], _, [], hW', trodAll_mk1 (shut_bool Tryd.underlying4 _), (trodAll_cons_mk (Below.trod laidOut (by kernel_rfl) (of_decide_eq_true (by kernel_rfl)) k0 bel lt0) (trodAll_cons_mk (Below.trod laidOut (by kernel_rfl) (of_decide_eq_true (by kernel_rfl)) k1 bel lt1) trodAll_mk0)), rfl, bel.frame _, fun h => by cases h⟩
theorem holds : Rows.SelectionItemsSaid :=
 OpenClaim.holds_of_wide 15 Tryd.f15 rfl rfl rfl rfl rfl rfl rfl ⟨rfl, rfl, rfl, rfl, rfl⟩ rfl rfl rfl rfl rfl (by kernel_rfl) Tryd.func15 (by kernel_rfl)
  (of_decide_eq_true (by kernel_rfl)) (by unfold Func.isWrapper; first | (rw [if_pos (by decide +kernel)]; kernel_rfl) | (rw [if_neg (by decide +kernel)]; exact ⟨rfl, rfl⟩))
  (fun os started H enc _ => lifted os started H enc)
theorem card : Rows.SelectionItemsCardSaid :=
 Claim7.holds_tied_plain_at .later [] [.data, .pinned] true (true, "c39d0df16196e9f8f3819fe85171d6b94f20910c6b42b30e9fe380aa6e06d008") false holds (fun _ h => by cases h) (by kernel_rfl) (fun _ h => by cases h) selectionItems_row_tie rfl ⟨rfl, rfl⟩ (by kernel_rfl) rfl
  (fun f fn hf hfn => by
   obtain rfl : f = 15 := Option.some.inj ((show Tryd.prog.funcNamed "vinculum/vinculumlaw11.SelectionItems" = some 15 by kernel_rfl).symm.trans hf) |>.symm
   obtain rfl : fn = Tryd.f15 := (Option.some.inj (Tryd.func15.symm.trans hfn)).symm
   exact ⟨by kernel_rfl, fun j t ht => by
    rw [Tryd.params15] at ht
    have hm : t ∈ [36, 54] := by simpa using Array.mem_of_getElem? ht
    have hall : ([36, 54].all fun u => !Tryd.prog.wantsStandIn u) = true := by kernel_rfl
    exact (show Tryd.prog.wantsStandIn t = false by simpa using List.all_eq_true.1 hall t hm)⟩)
  (by kernel_rfl)
end Go.Proofs.YtagkhoeidjlahaaDoor.selectionItems
namespace Go.Proofs.YtagkhoeidjlahaaDoor
theorem selectionItems_card : Rows.SelectionItemsCardSaid := selectionItems.card
#print axioms selectionItems_card
end Go.Proofs.YtagkhoeidjlahaaDoor
