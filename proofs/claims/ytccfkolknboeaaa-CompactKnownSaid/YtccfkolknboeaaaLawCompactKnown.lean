/- The law CompactKnown, which has no parameters: the machine runs it in the kernel, and the row says what it tells. -/
import Derived.Test.YtccfkolknboeaaaAm19
import Derived.Test.YtccfkolknboeaaaRows
set_option linter.unusedVariables false
namespace Go.Proofs.Ytccfkolknboeaaa.compactKnown
open Go.ChangeShapes Go.WideShapes Go.ChangeAt Go.RowKit

theorem own : ownKnob Try.prog.godebug = none := by kernel_rfl
theorem laidOut : laidOutB Try.prog = true := by kernel_rfl
/-- At each loop every temporary is kept. -/
def every : Hints := List.replicate 60 (List.range 400)
noncomputable def table : FuncId → Option AFunc := fun f => cFunc Try.prog f every
theorem sound : CallsOk Try.prog (acall (fun _ => none) table 100000 40) :=
  acall_sound (fun _ _ h => by cases h) (fun f af h => ⟨_, h⟩) _ _
theorem run : tellsTrue (acall (fun _ => none) table 100000 40 10 [] Heap.empty) = true := by kernel_rfl
theorem calls (w : World) : Calls Try.prog 10 #[] w fun e w' => e = .returned (.bool true) ∧ Below w.heap.size w w' :=
  let ⟨_, h⟩ := tellsTrue_iff run
  closed_calls (sound 10).2 h w

set_option maxRecDepth 100000 in
theorem lifted (os : Os) (started : os.Started) (H : Type) (enc : TypeId × Value → H) :
    ReturnsInHanded {} Try.checked os 10 .any (Rows.compactKnownSpec.pre6 enc Try.prog Try.f10 Rows.compactKnownRow.domain false) (Rows.compactKnownSpec.post enc Try.prog Try.f10 false true false false) := by
  refine returnsInHanded_of_change_sized (C := Try.checked) own started (by kernel_rfl) Try.func10
    (ChangeSpec.witness6 (enc := enc) (C := Try.checked) false ⟨#[], #[], []⟩ 8 (by kernel_rfl) (by kernel_rfl) (by kernel_rfl) (by kernel_rfl)) ?_
  intro W base args ds gs before hval0 hW hcnd hsz0 _
  have hW' := hW
  obtain ⟨p, q, hA0, _, _, _, _⟩ := hW'
  have hA : DataW.TrodAll enc Try.prog W 0 (fun _ => true) true Try.f10.params.toList args.toList ds p := hA0
  rw [Try.params10] at hA
  obtain ⟨rfl, rfl, _⟩ := trodAll_none hA
  refine (calls W).mono fun e W' ⟨he, bel⟩ => ?_
  subst he
  exact ⟨_, rfl, law_post laidOut (by kernel_rfl) rfl rfl Try.underlying4 rfl hW bel⟩

theorem proved : Rows.CompactKnownSaid :=
  OpenClaim.holds_of_wide 10 Try.f10 rfl rfl rfl rfl rfl rfl rfl ⟨rfl, rfl, rfl, rfl, rfl⟩ rfl rfl rfl rfl rfl (by kernel_rfl) Try.func10 (by kernel_rfl)
    (of_decide_eq_true (by kernel_rfl)) (by unfold Func.isWrapper; first | (rw [if_pos (by decide +kernel)]; kernel_rfl) | (rw [if_neg (by decide +kernel)]; exact ⟨rfl, rfl⟩))
    (fun os started H enc _ => lifted os started H enc)

#print axioms proved
end Go.Proofs.Ytccfkolknboeaaa.compactKnown

namespace Go.Proofs.Ytccfkolknboeaaa
/-- The row, under a short name, for the claim. -/
theorem compactKnown_holds : Rows.CompactKnownSaid := compactKnown.proved
end Go.Proofs.Ytccfkolknboeaaa
