/- The law DiskKnown, which has no parameters: the machine runs it in the kernel, and the row says what it tells. -/
import Derived.Test.YteibgagdnidojaaAm19
import Derived.Test.YteibgagdnidojaaRows
import Derived.Test.YteibgagdnidojaaFn1
set_option linter.unusedVariables false
namespace Go.Proofs.Yteibgagdnidojaa.diskKnown
open Go.ChangeShapes Go.WideShapes Go.ChangeAt Go.RowKit

theorem own : ownKnob Try.prog.godebug = none := by kernel_rfl
theorem laidOut : laidOutB Try.prog = true := by kernel_rfl
def rows : List (Nat × AFunc) := [(19, F19), (52, F52), (53, F53), (55, F55), (56, F56), (57, F57), (58, F58), (59, F59), (60, F60), (62, F62), (79, F79), (80, F80), (82, F82), (89, F89)]
def table : FuncId → Option AFunc := fun f => (rows.find? fun r => r.1 == f).map fun r => r.2
theorem rows_ok : ∀ r ∈ rows, ∃ h, cFunc Try.prog r.1 h = some r.2 :=
  List.forall_mem_cons.2 ⟨⟨_, F19_is⟩, List.forall_mem_cons.2 ⟨⟨_, F52_is⟩, List.forall_mem_cons.2 ⟨⟨_, F53_is⟩, List.forall_mem_cons.2 ⟨⟨_, F55_is⟩, List.forall_mem_cons.2 ⟨⟨_, F56_is⟩, List.forall_mem_cons.2 ⟨⟨_, F57_is⟩, List.forall_mem_cons.2 ⟨⟨_, F58_is⟩, List.forall_mem_cons.2 ⟨⟨_, F59_is⟩, List.forall_mem_cons.2 ⟨⟨_, F60_is⟩, List.forall_mem_cons.2 ⟨⟨_, F62_is⟩, List.forall_mem_cons.2 ⟨⟨_, F79_is⟩, List.forall_mem_cons.2 ⟨⟨_, F80_is⟩, List.forall_mem_cons.2 ⟨⟨_, F82_is⟩, List.forall_mem_cons.2 ⟨⟨_, F89_is⟩, (fun _ h => by cases h)⟩⟩⟩⟩⟩⟩⟩⟩⟩⟩⟩⟩⟩⟩
theorem table_ok : ∀ f af, table f = some af → ∃ h, cFunc Try.prog f h = some af := by
  intro f af h
  obtain ⟨r, hr, rfl⟩ := Option.map_eq_some_iff.1 h
  have h1 : r.1 = f := by
    have := List.find?_some hr
    simpa using this
  obtain ⟨h, hh⟩ := rows_ok r (List.mem_of_find?_eq_some hr)
  exact ⟨h, by rw [← h1]; exact hh⟩
theorem sound : CallsOk Try.prog (acall (fun _ => none) table 100000 40) :=
  acall_sound (fun _ _ h => by cases h) table_ok _ _
theorem run : tellsTrue (acall (fun _ => none) table 100000 40 19 [] Heap.empty) = true := by kernel_rfl
theorem calls (w : World) : Calls Try.prog 19 #[] w fun e w' => e = .returned (.bool true) ∧ Below w.heap.size w w' :=
  let ⟨_, h⟩ := tellsTrue_iff run
  closed_calls (sound 19).2 h w

set_option maxRecDepth 100000 in
theorem lifted (os : Os) (started : os.Started) (H : Type) (enc : TypeId × Value → H) :
    ReturnsInHanded {} Try.checked os 19 .any (Rows.diskKnownSpec.pre6 enc Try.prog Try.f19 Rows.diskKnownRow.domain false) (Rows.diskKnownSpec.post enc Try.prog Try.f19 false true false false) := by
  refine returnsInHanded_of_change_sized (C := Try.checked) own started (by kernel_rfl) Try.func19
    (ChangeSpec.witness6 (enc := enc) (C := Try.checked) false ⟨#[], #[], []⟩ 8 (by kernel_rfl) (by kernel_rfl) (by kernel_rfl) (by kernel_rfl)) ?_
  intro W base args ds gs before hval0 hW hcnd hsz0 _
  have hW' := hW
  obtain ⟨p, q, hA0, _, _, _, _⟩ := hW'
  have hA : DataW.TrodAll enc Try.prog W 0 (fun _ => true) true Try.f19.params.toList args.toList ds p := hA0
  rw [Try.params19] at hA
  obtain ⟨rfl, rfl, _⟩ := trodAll_none hA
  refine (calls W).mono fun e W' ⟨he, bel⟩ => ?_
  subst he
  exact ⟨_, rfl, law_post laidOut (by kernel_rfl) rfl rfl Try.underlying4 rfl hW bel⟩

theorem proved : Rows.DiskKnownSaid :=
  OpenClaim.holds_of_wide 19 Try.f19 rfl rfl rfl rfl rfl rfl rfl ⟨rfl, rfl, rfl, rfl, rfl⟩ rfl rfl rfl rfl rfl (by kernel_rfl) Try.func19 (by kernel_rfl)
    (of_decide_eq_true (by kernel_rfl)) (by unfold Func.isWrapper; first | (rw [if_pos (by decide +kernel)]; kernel_rfl) | (rw [if_neg (by decide +kernel)]; exact ⟨rfl, rfl⟩))
    (fun os started H enc _ => lifted os started H enc)

#print axioms proved
end Go.Proofs.Yteibgagdnidojaa.diskKnown

namespace Go.Proofs.Yteibgagdnidojaa
/-- The row, under a short name, for the claim. -/
theorem diskKnown_holds : Rows.DiskKnownSaid := diskKnown.proved
end Go.Proofs.Yteibgagdnidojaa
