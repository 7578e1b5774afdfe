/- The functions by number. -/
import Derived.Test.YteibgagdnidojaaAm32
import Derived.Test.YteibgagdnidojaaVn1
set_option linter.all false
set_option maxRecDepth 100000
namespace Go.Proofs.Yteibgagdnidojaa

def vrows : List (Nat × VFunc) := [(4, VF4), (5, VF5), (6, VF6), (8, VF8), (9, VF9), (10, VF10), (23, VF23), (24, VF24), (25, VF25), (26, VF26), (27, VF27), (28, VF28), (29, VF29), (30, VF30), (31, VF31), (32, VF32), (33, VF33), (34, VF34), (35, VF35), (36, VF36), (37, VF37), (76, VF76)]
def vtab : FuncId → Option VFunc := fun f => (vrows.find? fun r => r.1 == f).map fun r => r.2
def atab : FuncId → Option AFunc := fun f => (vtab f).map VFunc.erase
def isKn (f : FuncId) : Bool := [23, 33, 41, 51, 53].contains f
theorem isKn_ne {kn f : FuncId} (h : isKn kn = true) (hf : isKn f = false) : f ≠ kn := fun e => by rw [e, h] at hf; cases hf
theorem vrows_ok : ∀ r ∈ vrows, (∃ h, cFunc Try.prog r.1 h = some r.2.erase) ∧ r.2.code.okc = true :=
  List.forall_mem_cons.2 ⟨⟨⟨_, VF4_is⟩, VF4_okc⟩, List.forall_mem_cons.2 ⟨⟨⟨_, VF5_is⟩, VF5_okc⟩, List.forall_mem_cons.2 ⟨⟨⟨_, VF6_is⟩, VF6_okc⟩, List.forall_mem_cons.2 ⟨⟨⟨_, VF8_is⟩, VF8_okc⟩, List.forall_mem_cons.2 ⟨⟨⟨_, VF9_is⟩, VF9_okc⟩, List.forall_mem_cons.2 ⟨⟨⟨_, VF10_is⟩, VF10_okc⟩, List.forall_mem_cons.2 ⟨⟨⟨_, VF23_is⟩, VF23_okc⟩, List.forall_mem_cons.2 ⟨⟨⟨_, VF24_is⟩, VF24_okc⟩, List.forall_mem_cons.2 ⟨⟨⟨_, VF25_is⟩, VF25_okc⟩, List.forall_mem_cons.2 ⟨⟨⟨_, VF26_is⟩, VF26_okc⟩, List.forall_mem_cons.2 ⟨⟨⟨_, VF27_is⟩, VF27_okc⟩, List.forall_mem_cons.2 ⟨⟨⟨_, VF28_is⟩, VF28_okc⟩, List.forall_mem_cons.2 ⟨⟨⟨_, VF29_is⟩, VF29_okc⟩, List.forall_mem_cons.2 ⟨⟨⟨_, VF30_is⟩, VF30_okc⟩, List.forall_mem_cons.2 ⟨⟨⟨_, VF31_is⟩, VF31_okc⟩, List.forall_mem_cons.2 ⟨⟨⟨_, VF32_is⟩, VF32_okc⟩, List.forall_mem_cons.2 ⟨⟨⟨_, VF33_is⟩, VF33_okc⟩, List.forall_mem_cons.2 ⟨⟨⟨_, VF34_is⟩, VF34_okc⟩, List.forall_mem_cons.2 ⟨⟨⟨_, VF35_is⟩, VF35_okc⟩, List.forall_mem_cons.2 ⟨⟨⟨_, VF36_is⟩, VF36_okc⟩, List.forall_mem_cons.2 ⟨⟨⟨_, VF37_is⟩, VF37_okc⟩, List.forall_mem_cons.2 ⟨⟨⟨_, VF76_is⟩, VF76_okc⟩, (fun _ h => by cases h)⟩⟩⟩⟩⟩⟩⟩⟩⟩⟩⟩⟩⟩⟩⟩⟩⟩⟩⟩⟩⟩⟩
theorem vtab_ok {f : FuncId} {vf : VFunc} (h : vtab f = some vf) : (∃ hs, cFunc Try.prog f hs = some vf.erase) ∧ vf.code.okc = true := by
  obtain ⟨r, hr, rfl⟩ := Option.map_eq_some_iff.1 h
  have h1 : r.1 = f := by
    have := List.find?_some hr
    simpa using this
  have := vrows_ok r (List.mem_of_find?_eq_some hr)
  rw [h1] at this
  exact this
theorem atab_ok {f : FuncId} {af : AFunc} (h : atab f = some af) : ∃ hs, cFunc Try.prog f hs = some af := by
  obtain ⟨vf, h1, rfl⟩ := Option.map_eq_some_iff.1 h
  exact (vtab_ok h1).1
/-- A call of a function that writes to nothing older. -/
theorem vcall_bare {kn K d : Nat} {fr : Fr} {f : FuncId} {args : List AV} {H : Heap} {vf : VFunc} (hk : isKn kn = true) (hf : isKn f = false) (hT : vtab f = some vf) (hb : vf.bare = true) :
    vcall kn vtab K (d + 1) fr f args H = vbody (vcall kn vtab K d) K vf args H { mark := H.next, tidy := [] } := by
  simp [vcall, isKn_ne hk hf, hT, hb]
theorem vcall_full {kn K d : Nat} {fr : Fr} {f : FuncId} {args : List AV} {H : Heap} {vf : VFunc} (hk : isKn kn = true) (hf : isKn f = false) (hT : vtab f = some vf) (hb : vf.bare = false) :
    vcall kn vtab K (d + 1) fr f args H = if (reach H (idsOfL args)).all (fun b => decide (fr.mark ≤ b) || fr.tidy.contains b) then vbody (vcall kn vtab K d) K vf args H { mark := H.next, tidy := reach H (idsOfL args) } else none := by
  simp [vcall, isKn_ne hk hf, hT, hb]
theorem vcall_kn {kn K d : Nat} {fr : Fr} {H : Heap} : vcall kn vtab K (d + 1) fr kn [] H = some (.bool true, H) := by
  simp [vcall]

end Go.Proofs.Yteibgagdnidojaa
