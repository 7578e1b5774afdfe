/- The law ShardFull: its Lean function tells true. -/
import Derived.Test.YtachollgbplikaaH2
import Derived.Test.YtachollgbplikaaY3
import Derived.Test.YtachollgbplikaaXrShardFull
set_option linter.all false
set_option linter.unusedSimpArgs false
set_option maxRecDepth 100000
namespace Go.Proofs.Ytachollgbplikaa

theorem pk16 : ∀ k : Fin 16, osmosishand_Pick (k.val : Int) 16 = some (k.val : Int) := by decide +kernel
theorem pk6 : ∀ k : Fin 6, osmosishand_Pick (k.val : Int) 6 = some (k.val : Int) := by decide +kernel
theorem pk4 : ∀ k : Fin 4, osmosishand_Pick (k.val : Int) 4 = some (k.val : Int) := by decide +kernel
theorem full_all : ∀ k : Fin 16, ∀ v : Fin 6, ∀ c : Fin 4, osmosislaw8_ShardFull (k.val : Int) (v.val : Int) (c.val : Int) = some true := by decide +kernel
theorem osmosislaw8_ShardFull_true (x0 : Int) (x1 : Int) (x2 : Int) (o0 : okI x0) (o1 : okI x1) (o2 : okI x2) (hb : bk1 x0 + bk1 x1 + bk1 x2 ≤ 1048576) : osmosislaw8_ShardFull x0 x1 x2 = some true := by
  obtain ⟨k, hk, hk2⟩ := pick_nat x0 16 (by omega) (by omega)
  obtain ⟨v, hv, hv2⟩ := pick_nat x1 6 (by omega) (by omega)
  obtain ⟨c, hc, hc2⟩ := pick_nat x2 4 (by omega) (by omega)
  have hk : osmosishand_Pick x0 16 = some (k : Int) := hk
  have hv : osmosishand_Pick x1 6 = some (v : Int) := hv
  have hc : osmosishand_Pick x2 4 = some (c : Int) := hc
  have e1 : osmosishand_Key x0 = osmosishand_Key (k : Int) := by
    unfold osmosishand_Key
    rw [hk, pk16 ⟨k, hk2⟩]
  have e2 : osmosishand_Value x1 = osmosishand_Value (v : Int) := by
    unfold osmosishand_Value
    rw [hv, pk6 ⟨v, hv2⟩]
  have e3 : osmosishand_Pick x2 4 = osmosishand_Pick (c : Int) 4 := by rw [hc, pk4 ⟨c, hc2⟩]
  have e : osmosislaw8_ShardFull x0 x1 x2 = osmosislaw8_ShardFull (k : Int) (v : Int) (c : Int) := by
    have hL : ∀ x s, osmosislaw8_ShardFull_L0 x x0 x1 s = osmosislaw8_ShardFull_L0 x (k : Int) (v : Int) s := fun _ _ => rfl
    unfold osmosislaw8_ShardFull
    simp only [e1, e2, e3, hL]
  rw [e]
  exact full_all ⟨k, hk2⟩ ⟨v, hv2⟩ ⟨c, hc2⟩
end Go.Proofs.Ytachollgbplikaa
