/- The law RouteTeaches, where what it reads is of bulk at most 1048576: what was shown in V, laid into the row. -/
import Derived.Test.YtlcjmchhnbdepaaJ5
import Derived.Test.YtlcjmchhnbdepaaRows
import Derived.Test.YtlcjmchhnbdepaaPuRouteTeaches
import Derived.Test.YtlcjmchhnbdepaaLkRouteTeaches
set_option linter.all false
set_option linter.unusedSimpArgs false
namespace Go.Proofs.Ytlcjmchhnbdepaa.routeTeaches
open Go.ChangeShapes Go.WideShapes Go.ChangeAt Go.RowKit

mutual
theorem bulk_le {H : Type} : ∀ d : DataW H, (toD d).bulk ≤ Rows.uptoBulk d
  | .lit (.string b) => by simp [toD, D.bulk, Rows.uptoBulk]
  | .lit (.bool b) => by simp [toD, D.bulk, Rows.uptoBulk]
  | .lit (.int k b) => by simp [toD, D.bulk, Rows.uptoBulk]
  | .lit (.float k b) => by simp [toD, D.bulk]
  | .lit .nil => by simp [toD, D.bulk]
  | .nil => by simp [toD, D.bulk, D.bulks, Rows.uptoBulk]
  | .slice es sp => by
    have := bulks_le es
    simp only [toD, D.bulk, Rows.uptoBulk]
    omega
  | .agg es => by
    have := bulks_le es
    simp only [toD, D.bulk, Rows.uptoBulk]
    omega
  | .ptr d => by simp [toD, D.bulk]
  | .iface n d => by simp [toD, D.bulk]
  | .map es => by simp [toD, D.bulk]
  | .held h => by simp [toD, D.bulk]
theorem bulks_le {H : Type} : ∀ l : List (DataW H), D.bulks (toDs l) ≤ Rows.uptoBulkAll l
  | [] => by simp [toDs, D.bulks]
  | d :: r => by
    have h1 := bulk_le d
    have h2 := bulks_le r
    simp only [toDs, D.bulks, Rows.uptoBulkAll]
    omega
end

set_option maxRecDepth 100000 in
theorem lifted (os : Os) (started : os.Started) (H : Type) (enc : TypeId × Value → H) (F0 : Stop.Interp) :
    ReturnsInHanded {} Try.checked os 3 .any ((Rows.OpenSpec.upto Rows.routeTeachesSpec).pre6 enc Try.prog Try.f3 Rows.routeTeachesUptoRow.domain false) (((Rows.OpenSpec.upto Rows.routeTeachesSpec).at F0).post enc Try.prog Try.f3 false true false false) := by
  refine returnsInHanded_of_cond_sized (C := Try.checked) (s := Rows.OpenSpec.upto Rows.routeTeachesSpec) (k := Rows.uptoSmall) rfl ownK started (by kernel_rfl) Try.func3
    (OpenSpec.witness (enc := enc) (C := Try.checked) (s := Rows.OpenSpec.upto Rows.routeTeachesSpec) (k := Rows.uptoSmall) rfl false ⟨#[], #[.int .i64 0, .slice none 0 0, .int .i64 0, .int .i64 0], []⟩ 8 (by kernel_rfl) (by kernel_rfl) (by kernel_rfl)
      (x := ([.lit (.int .i64 0), .nil, .lit (.int .i64 0), .lit (.int .i64 0)], [], [])) (by kernel_rfl) (by kernel_rfl) (by kernel_rfl)) ?_
  intro W base args ds gs before hval0 hW _ hk _ _
  have hval : ∀ (j : Nat) t v, Try.f3.params.toList[j]? = some t → args.toList[j]? = some v → Value.okWide Try.prog W .any base t v := fun j t v h1 h2 => hval0 j t v (by rw [← Array.getElem?_toList]; exact h1) (by rw [← Array.getElem?_toList]; exact h2)
  have hW1 : DataW.Whole enc Try.prog Try.f3.params.toList Rows.routeTeachesSpec.vars false W args.toList ds gs before := hW
  have hW' := hW1
  obtain ⟨p, q, hA, hV, _, _, _⟩ := hW'
  have hgs : gs = [] := by
    cases gs with
    | nil => rfl
    | cons _ _ => simp [DataW.TrodVars, Rows.routeTeachesSpec] at hV
  have hlen : ds.length = 4 := by
    have hA1 := hA
    rw [Try.params3] at hA1
    obtain ⟨v0, vs0, d0, ds0, p0, q0, _, rfl, _, _, r0⟩ := trodAll_cons hA1; obtain ⟨v1, vs1, d1, ds1, p1, q1, _, rfl, _, _, r1⟩ := trodAll_cons r0; obtain ⟨v2, vs2, d2, ds2, p2, q2, _, rfl, _, _, r2⟩ := trodAll_cons r1; obtain ⟨v3, vs3, d3, ds3, p3, q3, _, rfl, _, _, r3⟩ := trodAll_cons r2;
    obtain ⟨_, rfl, _⟩ := trodAll_nil r3
    rfl
  have hb : D.bulks (ds.map toD) ≤ 1048576 := by
    have h1 : Rows.uptoBulkAll (ds ++ gs) ≤ 1048576 := of_decide_eq_true hk
    rw [hgs, List.append_nil] at h1
    have h2 := bulks_le ds
    rw [toDs_eq] at h2
    omega
  refine (open_callsW (P := Try.prog) (k := 10) laidOut (law_sound (G := wG) (T := atabT) wG_ok (fun _ _ h => atab_is h) KK 4 (f := 3) rfl) pure (ts := Try.f3.params.toList) (by kernel_rfl) (by kernel_rfl) hval hA hb).mono fun e W' ⟨he, bel⟩ => ?_
  subst he
  refine ⟨_, rfl, law_post (s := Rows.routeTeachesSpec) laidOut (by kernel_rfl) rfl rfl Try.underlying4 ?_ hW1 bel⟩
  match ds, hlen with
  | [_, _, _, _], _ => rfl

end Go.Proofs.Ytlcjmchhnbdepaa.routeTeaches
