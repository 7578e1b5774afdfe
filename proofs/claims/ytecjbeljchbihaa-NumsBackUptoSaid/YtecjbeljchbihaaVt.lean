/- The functions by number. -/
import Derived.Test.YtecjbeljchbihaaAm34
import Derived.Test.YtecjbeljchbihaaVn1
set_option linter.all false
set_option maxRecDepth 100000
namespace Go.Proofs.Ytecjbeljchbihaa

def vrows : List (Nat × VFunc) := [(3, VF3), (4, VF4), (5, VF5), (6, VF6), (7, VF7), (8, VF8), (9, VF9), (10, VF10), (11, VF11), (12, VF12), (13, VF13), (14, VF14), (15, VF15), (16, VF16), (17, VF17), (18, VF18), (19, VF19), (20, VF20)]
def vtab : FuncId → Option VFunc := fun f => (vrows.find? fun r => r.1 == f).map fun r => r.2
def atab : FuncId → Option AFunc := fun f => (vtab f).map VFunc.erase
def isKn (f : FuncId) : Bool := [9].contains f
theorem isKn_ne {kn f : FuncId} (h : isKn kn = true) (hf : isKn f = false) : f ≠ kn := fun e => by rw [e, h] at hf; cases hf
theorem vrows_ok : ∀ r ∈ vrows, (∃ h, cFunc Try.prog r.1 h = some r.2.erase) ∧ r.2.code.okc = true ∧ (∀ g, r.2.sum = some g → VSum g r.2.erase) :=
  List.forall_mem_cons.2 ⟨⟨⟨_, VF3_is⟩, VF3_okc, VF3_sum⟩, List.forall_mem_cons.2 ⟨⟨⟨_, VF4_is⟩, VF4_okc, VF4_sum⟩, List.forall_mem_cons.2 ⟨⟨⟨_, VF5_is⟩, VF5_okc, VF5_sum⟩, List.forall_mem_cons.2 ⟨⟨⟨_, VF6_is⟩, VF6_okc, VF6_sum⟩, List.forall_mem_cons.2 ⟨⟨⟨_, VF7_is⟩, VF7_okc, VF7_sum⟩, List.forall_mem_cons.2 ⟨⟨⟨_, VF8_is⟩, VF8_okc, VF8_sum⟩, List.forall_mem_cons.2 ⟨⟨⟨_, VF9_is⟩, VF9_okc, VF9_sum⟩, List.forall_mem_cons.2 ⟨⟨⟨_, VF10_is⟩, VF10_okc, VF10_sum⟩, List.forall_mem_cons.2 ⟨⟨⟨_, VF11_is⟩, VF11_okc, VF11_sum⟩, List.forall_mem_cons.2 ⟨⟨⟨_, VF12_is⟩, VF12_okc, VF12_sum⟩, List.forall_mem_cons.2 ⟨⟨⟨_, VF13_is⟩, VF13_okc, VF13_sum⟩, List.forall_mem_cons.2 ⟨⟨⟨_, VF14_is⟩, VF14_okc, VF14_sum⟩, List.forall_mem_cons.2 ⟨⟨⟨_, VF15_is⟩, VF15_okc, VF15_sum⟩, List.forall_mem_cons.2 ⟨⟨⟨_, VF16_is⟩, VF16_okc, VF16_sum⟩, List.forall_mem_cons.2 ⟨⟨⟨_, VF17_is⟩, VF17_okc, VF17_sum⟩, List.forall_mem_cons.2 ⟨⟨⟨_, VF18_is⟩, VF18_okc, VF18_sum⟩, List.forall_mem_cons.2 ⟨⟨⟨_, VF19_is⟩, VF19_okc, VF19_sum⟩, List.forall_mem_cons.2 ⟨⟨⟨_, VF20_is⟩, VF20_okc, VF20_sum⟩, (fun _ h => by cases h)⟩⟩⟩⟩⟩⟩⟩⟩⟩⟩⟩⟩⟩⟩⟩⟩⟩⟩
theorem vtab_ok {f : FuncId} {vf : VFunc} (h : vtab f = some vf) : (∃ hs, cFunc Try.prog f hs = some vf.erase) ∧ vf.code.okc = true ∧ ∀ g, vf.sum = some g → VSum g vf.erase := by
  obtain ⟨r, hr, rfl⟩ := Option.map_eq_some_iff.1 h
  have h1 : r.1 = f := by
    have := List.find?_some hr
    simpa using this
  have := vrows_ok r (List.mem_of_find?_eq_some hr)
  rw [h1] at this
  exact this
theorem atab_ok {f : FuncId} {af : AFunc} (h : atab f = some af) : ∃ hs, cFunc Try.prog f hs = some af := by
  obtain ⟨vf, h1, rfl⟩ := Option.map_eq_some_iff.1 h
  exact (vtab_ok h1).1
theorem call_of {kn K d : Nat} {fr : Fr} {f : FuncId} {args : List AV} {H : Heap} {vf : VFunc} (hk : isKn kn = true) (hf : isKn f = false) (hT : vtab f = some vf) (hs : vf.sum = none := by rfl) (hl : vf.lists = true := by rfl) :
    vcall kn vtab K (d + 1) fr f args H = vfrz (vcallB (vcall kn vtab K d) vtab K fr f) H (frzL (frz H 5 false) args) := by
  simp [vcall, isKn_ne hk hf, hT, hs, hl]
theorem sum_of {kn K d : Nat} {fr : Fr} {f : FuncId} {args : List AV} {H : Heap} {vf : VFunc} {g : List AV → Heap → Option (AV × Heap)} (hk : isKn kn = true) (hf : isKn f = false) (hT : vtab f = some vf) (hs : vf.sum = some g) :
    vcall kn vtab K (d + 1) fr f args H = g args H := by
  simp [vcall, isKn_ne hk hf, hT, hs]
/-- A body that writes to nothing older. -/
theorem body_bare {C : VCalls} {K : Nat} {fr : Fr} {f : FuncId} {args : List AV} {H : Heap} {vf : VFunc} (hT : vtab f = some vf) (hb : vf.bare = true) :
    vcallB C vtab K fr f args H = vbody C K vf args H { mark := H.next, tidy := [] } := by
  simp [vcallB, hT, hb]
theorem body_full {C : VCalls} {K : Nat} {fr : Fr} {f : FuncId} {args : List AV} {H : Heap} {vf : VFunc} (hT : vtab f = some vf) (hb : vf.bare = false) :
    vcallB C vtab K fr f args H = if (reach H (idsOfL args)).all (fun b => decide (fr.mark ≤ b) || fr.tidy.contains b) then vbody C K vf args H { mark := H.next, tidy := reach H (idsOfL args) } else none := by
  simp [vcallB, hT, hb]
theorem vcall_kn {kn K d : Nat} {fr : Fr} {H : Heap} : vcall kn vtab K (d + 1) fr kn [] H = some (.bool true, H) := by
  simp [vcall]

end Go.Proofs.Ytecjbeljchbihaa
