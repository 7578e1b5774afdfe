/- The functions by number. -/
import Derived.Test.YteibgagdnidojaaAm34
import Derived.Test.YteibgagdnidojaaVn1
set_option linter.all false
set_option maxRecDepth 100000
namespace Go.Proofs.Yteibgagdnidojaa

def vrows : List (Nat × VFunc) := [(12, VF12), (26, VF26), (38, VF38), (39, VF39), (40, VF40), (41, VF41), (42, VF42), (43, VF43), (44, VF44), (50, VF50), (77, VF77), (78, VF78), (79, VF79), (80, VF80)]
def vtab : FuncId → Option VFunc := fun f => (vrows.find? fun r => r.1 == f).map fun r => r.2
def atab : FuncId → Option AFunc := fun f => (vtab f).map VFunc.erase
def isKn (f : FuncId) : Bool := [23, 33, 41, 51, 53].contains f
theorem isKn_ne {kn f : FuncId} (h : isKn kn = true) (hf : isKn f = false) : f ≠ kn := fun e => by rw [e, h] at hf; cases hf
theorem vrows_ok : ∀ r ∈ vrows, (∃ h, cFunc Try.prog r.1 h = some r.2.erase) ∧ r.2.code.okc = true ∧ (∀ g, r.2.sum = some g → VSum g r.2.erase) :=
  List.forall_mem_cons.2 ⟨⟨⟨_, VF12_is⟩, VF12_okc, VF12_sum⟩, List.forall_mem_cons.2 ⟨⟨⟨_, VF26_is⟩, VF26_okc, VF26_sum⟩, List.forall_mem_cons.2 ⟨⟨⟨_, VF38_is⟩, VF38_okc, VF38_sum⟩, List.forall_mem_cons.2 ⟨⟨⟨_, VF39_is⟩, VF39_okc, VF39_sum⟩, List.forall_mem_cons.2 ⟨⟨⟨_, VF40_is⟩, VF40_okc, VF40_sum⟩, List.forall_mem_cons.2 ⟨⟨⟨_, VF41_is⟩, VF41_okc, VF41_sum⟩, List.forall_mem_cons.2 ⟨⟨⟨_, VF42_is⟩, VF42_okc, VF42_sum⟩, List.forall_mem_cons.2 ⟨⟨⟨_, VF43_is⟩, VF43_okc, VF43_sum⟩, List.forall_mem_cons.2 ⟨⟨⟨_, VF44_is⟩, VF44_okc, VF44_sum⟩, List.forall_mem_cons.2 ⟨⟨⟨_, VF50_is⟩, VF50_okc, VF50_sum⟩, List.forall_mem_cons.2 ⟨⟨⟨_, VF77_is⟩, VF77_okc, VF77_sum⟩, List.forall_mem_cons.2 ⟨⟨⟨_, VF78_is⟩, VF78_okc, VF78_sum⟩, List.forall_mem_cons.2 ⟨⟨⟨_, VF79_is⟩, VF79_okc, VF79_sum⟩, List.forall_mem_cons.2 ⟨⟨⟨_, VF80_is⟩, VF80_okc, VF80_sum⟩, (fun _ h => by cases h)⟩⟩⟩⟩⟩⟩⟩⟩⟩⟩⟩⟩⟩⟩
theorem vtab_ok {f : FuncId} {vf : VFunc} (h : vtab f = some vf) : (∃ hs, cFunc Try.prog f hs = some vf.erase) ∧ vf.code.okc = true ∧ ∀ g, vf.sum = some g → VSum g vf.erase := by
  obtain ⟨r, hr, rfl⟩ := Option.map_eq_some_iff.1 h
  have h1 : r.1 = f := by
    have := List.find?_some hr
    simpa using this
  have := vrows_ok r (List.mem_of_find?_eq_some hr)
  rw [h1] at this
  exact this
theorem atab_ok {f : FuncId} {af : AFunc} (h : atab f = some af) : ∃ hs, cFunc Try.prog f hs = some af := by
  obtain ⟨vf, h1, rfl⟩ := Option.map_eq_some_iff.1 h
  exact (vtab_ok h1).1
theorem call_of {kn K d : Nat} {fr : Fr} {f : FuncId} {args : List AV} {H : Heap} {vf : VFunc} (hk : isKn kn = true) (hf : isKn f = false) (hT : vtab f = some vf) (hs : vf.sum = none := by rfl) (hl : vf.lists = true := by rfl) :
    vcall kn vtab K (d + 1) fr f args H = vfrz (vcallB (vcall kn vtab K d) vtab K fr f) H (frzL (frz H 5 false) args) := by
  simp [vcall, isKn_ne hk hf, hT, hs, hl]
theorem sum_of {kn K d : Nat} {fr : Fr} {f : FuncId} {args : List AV} {H : Heap} {vf : VFunc} {g : List AV → Heap → Option (AV × Heap)} (hk : isKn kn = true) (hf : isKn f = false) (hT : vtab f = some vf) (hs : vf.sum = some g) :
    vcall kn vtab K (d + 1) fr f args H = g args H := by
  simp [vcall, isKn_ne hk hf, hT, hs]
/-- A body that writes to nothing older. -/
theorem body_bare {C : VCalls} {K : Nat} {fr : Fr} {f : FuncId} {args : List AV} {H : Heap} {vf : VFunc} (hT : vtab f = some vf) (hb : vf.bare = true) :
    vcallB C vtab K fr f args H = vbody C K vf args H { mark := H.next, tidy := [] } := by
  simp [vcallB, hT, hb]
theorem body_full {C : VCalls} {K : Nat} {fr : Fr} {f : FuncId} {args : List AV} {H : Heap} {vf : VFunc} (hT : vtab f = some vf) (hb : vf.bare = false) :
    vcallB C vtab K fr f args H = if (reach H (idsOfL args)).all (fun b => decide (fr.mark ≤ b) || fr.tidy.contains b) then vbody C K vf args H { mark := H.next, tidy := reach H (idsOfL args) } else none := by
  simp [vcallB, hT, hb]
theorem vcall_kn {kn K d : Nat} {fr : Fr} {H : Heap} : vcall kn vtab K (d + 1) fr kn [] H = some (.bool true, H) := by
  simp [vcall]

end Go.Proofs.Yteibgagdnidojaa
