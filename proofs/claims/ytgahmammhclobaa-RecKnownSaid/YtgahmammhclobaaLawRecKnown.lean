/- The law RecKnown, which has no parameters: the machine runs it in the kernel, and the row says what it tells. -/
import Derived.Test.YtgahmammhclobaaAm19
import Derived.Test.YtgahmammhclobaaAm23
import Derived.Test.YtgahmammhclobaaRows
import Derived.Test.YtgahmammhclobaaFn1
import Derived.Test.YtgahmammhclobaaFn2
import Derived.Test.YtgahmammhclobaaFn3
import Derived.Test.YtgahmammhclobaaFn4
import Derived.Test.YtgahmammhclobaaFn5
set_option linter.unusedVariables false
namespace Go.Proofs.Ytgahmammhclobaa.recKnown
open Go.ChangeShapes Go.WideShapes Go.ChangeAt Go.RowKit

theorem own : ownKnob Try.prog.godebug = none := by kernel_rfl
theorem laidOut : laidOutB Try.prog = true := by kernel_rfl
def rows : List (Nat × AFunc) := [(6, F6), (12, F12), (14, F14), (18, F18), (19, F19), (20, F20), (21, F21), (22, F22), (23, F23), (24, F24), (27, F27), (28, F28), (29, F29), (30, F30), (31, F31), (48, F48), (49, F49), (54, F54), (55, F55), (56, F56), (57, F57), (58, F58), (59, F59), (60, F60), (61, F61), (62, F62), (63, F63), (64, F64), (65, F65), (66, F66), (67, F67), (68, F68), (69, F69), (70, F70), (71, F71), (72, F72), (87, F87), (88, F88), (95, F95), (96, F96), (97, F97), (98, F98), (99, F99), (100, F100), (101, F101), (102, F102), (103, F103), (104, F104), (105, F105), (106, F106), (114, F114), (115, F115), (116, F116), (117, F117), (118, F118), (119, F119), (120, F120), (121, F121), (122, F122), (123, F123), (124, F124), (125, F125), (126, F126), (127, F127), (128, F128), (129, F129), (130, F130), (131, F131), (133, F133), (134, F134), (135, F135)]
def table : FuncId → Option AFunc := fun f => (rows.find? fun r => r.1 == f).map fun r => r.2
theorem rows_ok : ∀ r ∈ rows, ∃ h, cFunc Try.prog r.1 h = some r.2 :=
  List.forall_mem_cons.2 ⟨⟨_, F6_is⟩, List.forall_mem_cons.2 ⟨⟨_, F12_is⟩, List.forall_mem_cons.2 ⟨⟨_, F14_is⟩, List.forall_mem_cons.2 ⟨⟨_, F18_is⟩, List.forall_mem_cons.2 ⟨⟨_, F19_is⟩, List.forall_mem_cons.2 ⟨⟨_, F20_is⟩, List.forall_mem_cons.2 ⟨⟨_, F21_is⟩, List.forall_mem_cons.2 ⟨⟨_, F22_is⟩, List.forall_mem_cons.2 ⟨⟨_, F23_is⟩, List.forall_mem_cons.2 ⟨⟨_, F24_is⟩, List.forall_mem_cons.2 ⟨⟨_, F27_is⟩, List.forall_mem_cons.2 ⟨⟨_, F28_is⟩, List.forall_mem_cons.2 ⟨⟨_, F29_is⟩, List.forall_mem_cons.2 ⟨⟨_, F30_is⟩, List.forall_mem_cons.2 ⟨⟨_, F31_is⟩, List.forall_mem_cons.2 ⟨⟨_, F48_is⟩, List.forall_mem_cons.2 ⟨⟨_, F49_is⟩, List.forall_mem_cons.2 ⟨⟨_, F54_is⟩, List.forall_mem_cons.2 ⟨⟨_, F55_is⟩, List.forall_mem_cons.2 ⟨⟨_, F56_is⟩, List.forall_mem_cons.2 ⟨⟨_, F57_is⟩, List.forall_mem_cons.2 ⟨⟨_, F58_is⟩, List.forall_mem_cons.2 ⟨⟨_, F59_is⟩, List.forall_mem_cons.2 ⟨⟨_, F60_is⟩, List.forall_mem_cons.2 ⟨⟨_, F61_is⟩, List.forall_mem_cons.2 ⟨⟨_, F62_is⟩, List.forall_mem_cons.2 ⟨⟨_, F63_is⟩, List.forall_mem_cons.2 ⟨⟨_, F64_is⟩, List.forall_mem_cons.2 ⟨⟨_, F65_is⟩, List.forall_mem_cons.2 ⟨⟨_, F66_is⟩, List.forall_mem_cons.2 ⟨⟨_, F67_is⟩, List.forall_mem_cons.2 ⟨⟨_, F68_is⟩, List.forall_mem_cons.2 ⟨⟨_, F69_is⟩, List.forall_mem_cons.2 ⟨⟨_, F70_is⟩, List.forall_mem_cons.2 ⟨⟨_, F71_is⟩, List.forall_mem_cons.2 ⟨⟨_, F72_is⟩, List.forall_mem_cons.2 ⟨⟨_, F87_is⟩, List.forall_mem_cons.2 ⟨⟨_, F88_is⟩, List.forall_mem_cons.2 ⟨⟨_, F95_is⟩, List.forall_mem_cons.2 ⟨⟨_, F96_is⟩, List.forall_mem_cons.2 ⟨⟨_, F97_is⟩, List.forall_mem_cons.2 ⟨⟨_, F98_is⟩, List.forall_mem_cons.2 ⟨⟨_, F99_is⟩, List.forall_mem_cons.2 ⟨⟨_, F100_is⟩, List.forall_mem_cons.2 ⟨⟨_, F101_is⟩, List.forall_mem_cons.2 ⟨⟨_, F102_is⟩, List.forall_mem_cons.2 ⟨⟨_, F103_is⟩, List.forall_mem_cons.2 ⟨⟨_, F104_is⟩, List.forall_mem_cons.2 ⟨⟨_, F105_is⟩, List.forall_mem_cons.2 ⟨⟨_, F106_is⟩, List.forall_mem_cons.2 ⟨⟨_, F114_is⟩, List.forall_mem_cons.2 ⟨⟨_, F115_is⟩, List.forall_mem_cons.2 ⟨⟨_, F116_is⟩, List.forall_mem_cons.2 ⟨⟨_, F117_is⟩, List.forall_mem_cons.2 ⟨⟨_, F118_is⟩, List.forall_mem_cons.2 ⟨⟨_, F119_is⟩, List.forall_mem_cons.2 ⟨⟨_, F120_is⟩, List.forall_mem_cons.2 ⟨⟨_, F121_is⟩, List.forall_mem_cons.2 ⟨⟨_, F122_is⟩, List.forall_mem_cons.2 ⟨⟨_, F123_is⟩, List.forall_mem_cons.2 ⟨⟨_, F124_is⟩, List.forall_mem_cons.2 ⟨⟨_, F125_is⟩, List.forall_mem_cons.2 ⟨⟨_, F126_is⟩, List.forall_mem_cons.2 ⟨⟨_, F127_is⟩, List.forall_mem_cons.2 ⟨⟨_, F128_is⟩, List.forall_mem_cons.2 ⟨⟨_, F129_is⟩, List.forall_mem_cons.2 ⟨⟨_, F130_is⟩, List.forall_mem_cons.2 ⟨⟨_, F131_is⟩, List.forall_mem_cons.2 ⟨⟨_, F133_is⟩, List.forall_mem_cons.2 ⟨⟨_, F134_is⟩, List.forall_mem_cons.2 ⟨⟨_, F135_is⟩, (fun _ h => by cases h)⟩⟩⟩⟩⟩⟩⟩⟩⟩⟩⟩⟩⟩⟩⟩⟩⟩⟩⟩⟩⟩⟩⟩⟩⟩⟩⟩⟩⟩⟩⟩⟩⟩⟩⟩⟩⟩⟩⟩⟩⟩⟩⟩⟩⟩⟩⟩⟩⟩⟩⟩⟩⟩⟩⟩⟩⟩⟩⟩⟩⟩⟩⟩⟩⟩⟩⟩⟩⟩⟩⟩
theorem table_ok : ∀ f af, table f = some af → ∃ h, cFunc Try.prog f h = some af := by
  intro f af h
  obtain ⟨r, hr, rfl⟩ := Option.map_eq_some_iff.1 h
  have h1 : r.1 = f := by
    have := List.find?_some hr
    simpa using this
  obtain ⟨h, hh⟩ := rows_ok r (List.mem_of_find?_eq_some hr)
  exact ⟨h, by rw [← h1]; exact hh⟩
theorem sound : CallsOk Try.prog (acall (fun _ => none) table 100000 40) :=
  acall_sound (fun _ _ h => by cases h) table_ok _ _
theorem run : tellsTrue (bcall table 100000 40 6 [] Heap.empty) = true := by kernel_rfl
theorem calls (w : World) : Calls Try.prog 6 #[] w fun e w' => e = .returned (.bool true) ∧ Below w.heap.size w w' :=
  let ⟨_, h⟩ := tellsTrue_iff run
  closed_calls (sound 6).2 (bcall_ok 40 _ _ _ _ h) w

set_option maxRecDepth 100000 in
theorem lifted (os : Os) (started : os.Started) (H : Type) (enc : TypeId × Value → H) :
    ReturnsInHanded {} Try.checked os 6 .any (Rows.recKnownSpec.pre6 enc Try.prog Try.f6 Rows.recKnownRow.domain false) (Rows.recKnownSpec.post enc Try.prog Try.f6 false true false false) := by
  refine returnsInHanded_of_change_sized (C := Try.checked) own started (by kernel_rfl) Try.func6
    (ChangeSpec.witness6 (enc := enc) (C := Try.checked) false ⟨#[], #[], []⟩ 8 (by kernel_rfl) (by kernel_rfl) (by kernel_rfl) (by kernel_rfl)) ?_
  intro W base args ds gs before hval0 hW hcnd hsz0 _
  have hW' := hW
  obtain ⟨p, q, hA0, _, _, _, _⟩ := hW'
  have hA : DataW.TrodAll enc Try.prog W 0 (fun _ => true) true Try.f6.params.toList args.toList ds p := hA0
  rw [Try.params6] at hA
  obtain ⟨rfl, rfl, _⟩ := trodAll_none hA
  refine (calls W).mono fun e W' ⟨he, bel⟩ => ?_
  subst he
  exact ⟨_, rfl, law_post laidOut (by kernel_rfl) rfl rfl Try.underlying4 rfl hW bel⟩

theorem proved : Rows.RecKnownSaid :=
  OpenClaim.holds_of_wide 6 Try.f6 rfl rfl rfl rfl rfl rfl rfl ⟨rfl, rfl, rfl, rfl, rfl⟩ rfl rfl rfl rfl rfl (by kernel_rfl) Try.func6 (by kernel_rfl)
    (of_decide_eq_true (by kernel_rfl)) (by unfold Func.isWrapper; first | (rw [if_pos (by decide +kernel)]; kernel_rfl) | (rw [if_neg (by decide +kernel)]; exact ⟨rfl, rfl⟩))
    (fun os started H enc _ => lifted os started H enc)

#print axioms proved
end Go.Proofs.Ytgahmammhclobaa.recKnown

namespace Go.Proofs.Ytgahmammhclobaa
/-- The row, under a short name, for the claim. -/
theorem recKnown_holds : Rows.RecKnownSaid := recKnown.proved
end Go.Proofs.Ytgahmammhclobaa
