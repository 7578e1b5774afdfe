/- The law FrameKnown, which has no parameters: the machine runs it in the kernel, and the row says what it tells. -/
import Derived.Test.YtkedeiklmpkgkaaJ6
import Derived.Test.YtkedeiklmpkgkaaRows
import Derived.Test.YtkedeiklmpkgkaaLkFrameKnown
import Derived.Test.YtkedeiklmpkgkaaLrFrameKnown
set_option linter.all false
set_option linter.unusedSimpArgs false
set_option maxRecDepth 100000
namespace Go.Proofs.Ytkedeiklmpkgkaa.frameKnown
open Go.ChangeShapes Go.WideShapes Go.ChangeAt Go.RowKit

theorem calls (w : World) : Calls Try.prog 5 #[] w fun e w' => e = .returned (.bool true) ∧ Below w.heap.size w w' :=
  let ⟨_, h⟩ := tellsTrue_iff run
  closed_calls (law_sound (G := gF) (T := atabT) gF_ok (fun _ _ h => atab_is h) 100000 40 (f := 5) rfl) h w

theorem lifted (os : Os) (started : os.Started) (H : Type) (enc : TypeId × Value → H) :
    ReturnsInHanded {} Try.checked os 5 .any (Rows.frameKnownSpec.pre6 enc Try.prog Try.f5 Rows.frameKnownRow.domain false) (Rows.frameKnownSpec.post enc Try.prog Try.f5 false true false false) := by
  refine returnsInHanded_of_change_sized (C := Try.checked) ownK started (by kernel_rfl) Try.func5
    (ChangeSpec.witness6 (enc := enc) (C := Try.checked) false ⟨#[], #[], []⟩ 8 (by kernel_rfl) (by kernel_rfl) (by kernel_rfl) (by kernel_rfl)) ?_
  intro W base args ds gs before hval0 hW hcnd hsz0 _
  have hW' := hW
  obtain ⟨p, q, hA0, _, _, _, _⟩ := hW'
  have hA : DataW.TrodAll enc Try.prog W 0 (fun _ => true) true Try.f5.params.toList args.toList ds p := hA0
  rw [Try.params5] at hA
  obtain ⟨rfl, rfl, _⟩ := trodAll_none hA
  refine (calls W).mono fun e W' ⟨he, bel⟩ => ?_
  subst he
  exact ⟨_, rfl, law_post laidOut (by kernel_rfl) rfl rfl Try.underlying4 rfl hW bel⟩

theorem proved : Rows.FrameKnownSaid :=
  OpenClaim.holds_of_wide 5 Try.f5 rfl rfl rfl rfl rfl rfl rfl ⟨rfl, rfl, rfl, rfl, rfl⟩ rfl rfl rfl rfl rfl (by kernel_rfl) Try.func5 (by kernel_rfl)
    (of_decide_eq_true (by kernel_rfl)) (by unfold Func.isWrapper; first | (rw [if_pos (by decide +kernel)]; kernel_rfl) | (rw [if_neg (by decide +kernel)]; exact ⟨rfl, rfl⟩))
    (fun os started H enc _ => lifted os started H enc)

#print axioms proved
end Go.Proofs.Ytkedeiklmpkgkaa.frameKnown

namespace Go.Proofs.Ytkedeiklmpkgkaa
/-- The row, under a short name, for the claim. -/
theorem frameKnown_holds : Rows.FrameKnownSaid := frameKnown.proved
end Go.Proofs.Ytkedeiklmpkgkaa
