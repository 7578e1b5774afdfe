/- The law TableKnown, which has no parameters: its Lean function is run by the kernel. -/
import Derived.Test.YtachollgbplikaaJ6
import Derived.Test.YtachollgbplikaaRows
import Derived.Test.YtachollgbplikaaY2
import Derived.Test.YtachollgbplikaaLkTableKnown
set_option linter.all false
set_option linter.unusedSimpArgs false
set_option maxRecDepth 20000
namespace Go.Proofs.Ytachollgbplikaa.tableKnown
open Go.ChangeShapes Go.WideShapes Go.ChangeAt Go.RowKit

theorem told : osmosislaw6_TableKnown = some true := by decide +kernel
theorem pure : WLaw (wcalls atab 8) 14 [] 1048576 := by
  intro ds h hb
  obtain rfl := are_nil h
  have hs := s_osmosislaw6_TableKnown 0 told
  exact ⟨_, hs⟩

set_option maxRecDepth 100000 in
theorem lifted (os : Os) (started : os.Started) (H : Type) (enc : TypeId × Value → H) :
    ReturnsInHanded {} Try.checked os 14 .any (Rows.tableKnownSpec.pre6 enc Try.prog Try.f14 Rows.tableKnownRow.domain false) (Rows.tableKnownSpec.post enc Try.prog Try.f14 false true false false) := by
  refine returnsInHanded_of_change_sized (C := Try.checked) ownK started (by kernel_rfl) Try.func14
    (ChangeSpec.witness6 (enc := enc) (C := Try.checked) false ⟨#[], #[], []⟩ 8 (by kernel_rfl) (by kernel_rfl) (by kernel_rfl) (by kernel_rfl)) ?_
  intro W base args ds gs before hval0 hW hcnd hsz0 _
  have hval : ∀ (j : Nat) t v, Try.f14.params.toList[j]? = some t → args.toList[j]? = some v → Value.okWide Try.prog W .any base t v := fun j t v h1 h2 => hval0 j t v (by rw [← Array.getElem?_toList]; exact h1) (by rw [← Array.getElem?_toList]; exact h2)
  have hW' := hW
  obtain ⟨p, q, hA, _, _, _, _⟩ := hW'
  have hA0 : DataW.TrodAll enc Try.prog W 0 (fun _ => true) true Try.f14.params.toList args.toList ds p := hA
  have hA1 := hA0
  rw [Try.params14] at hA1
  have hds : ds = [] := (trodAll_none hA1).2.1
  have hb : D.bulks (ds.map toD) ≤ 1048576 := by
    rw [hds]
    simp [D.bulks]
  refine (open_callsW (P := Try.prog) (k := 10) laidOut (law_sound (G := wG) (T := atabT) wG_ok (fun _ _ h => atab_is h) KK 8 (f := 14) rfl) pure (ts := Try.f14.params.toList) (by kernel_rfl) (by kernel_rfl) hval hA0 hb).mono fun e W' ⟨he, bel⟩ => ?_
  subst he
  subst hds
  exact ⟨_, rfl, law_post laidOut (by kernel_rfl) rfl rfl Try.underlying4 rfl hW bel⟩

theorem proved : Rows.TableKnownSaid :=
  OpenClaim.holds_of_wide 14 Try.f14 rfl rfl rfl rfl rfl rfl rfl ⟨rfl, rfl, rfl, rfl, rfl⟩ rfl rfl rfl rfl rfl (by kernel_rfl) Try.func14 (by kernel_rfl)
    (of_decide_eq_true (by kernel_rfl)) (by unfold Func.isWrapper; first | (rw [if_pos (by decide +kernel)]; kernel_rfl) | (rw [if_neg (by decide +kernel)]; exact ⟨rfl, rfl⟩))
    (fun os started H enc _ => lifted os started H enc)

#print axioms proved
end Go.Proofs.Ytachollgbplikaa.tableKnown

namespace Go.Proofs.Ytachollgbplikaa
/-- The row, under a short name, for the claim. -/
theorem tableKnown_holds : Rows.TableKnownSaid := tableKnown.proved
end Go.Proofs.Ytachollgbplikaa
