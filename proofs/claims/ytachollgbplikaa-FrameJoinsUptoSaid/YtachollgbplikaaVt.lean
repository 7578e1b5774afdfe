/- The functions by number. -/
import Derived.Test.YtachollgbplikaaAm34
import Derived.Test.YtachollgbplikaaVn1
set_option linter.all false
set_option maxRecDepth 100000
namespace Go.Proofs.Ytachollgbplikaa

def vrows : List (Nat × VFunc) := [(6, VF6), (23, VF23), (24, VF24), (25, VF25), (26, VF26), (28, VF28), (34, VF34), (80, VF80), (81, VF81), (82, VF82), (83, VF83), (84, VF84), (85, VF85), (86, VF86), (117, VF117), (118, VF118), (119, VF119), (120, VF120), (133, VF133), (134, VF134), (139, VF139), (140, VF140)]
def vtab : FuncId → Option VFunc := fun f => (vrows.find? fun r => r.1 == f).map fun r => r.2
def atab : FuncId → Option AFunc := fun f => (vtab f).map VFunc.erase
def isKn (f : FuncId) : Bool := [25, 32, 55, 69].contains f
theorem isKn_ne {kn f : FuncId} (h : isKn kn = true) (hf : isKn f = false) : f ≠ kn := fun e => by rw [e, h] at hf; cases hf
theorem vrows_ok : ∀ r ∈ vrows, (∃ h, cFunc Try.prog r.1 h = some r.2.erase) ∧ r.2.code.okc = true ∧ (∀ g, r.2.sum = some g → VSum g r.2.erase) :=
  List.forall_mem_cons.2 ⟨⟨⟨_, VF6_is⟩, VF6_okc, VF6_sum⟩, List.forall_mem_cons.2 ⟨⟨⟨_, VF23_is⟩, VF23_okc, VF23_sum⟩, List.forall_mem_cons.2 ⟨⟨⟨_, VF24_is⟩, VF24_okc, VF24_sum⟩, List.forall_mem_cons.2 ⟨⟨⟨_, VF25_is⟩, VF25_okc, VF25_sum⟩, List.forall_mem_cons.2 ⟨⟨⟨_, VF26_is⟩, VF26_okc, VF26_sum⟩, List.forall_mem_cons.2 ⟨⟨⟨_, VF28_is⟩, VF28_okc, VF28_sum⟩, List.forall_mem_cons.2 ⟨⟨⟨_, VF34_is⟩, VF34_okc, VF34_sum⟩, List.forall_mem_cons.2 ⟨⟨⟨_, VF80_is⟩, VF80_okc, VF80_sum⟩, List.forall_mem_cons.2 ⟨⟨⟨_, VF81_is⟩, VF81_okc, VF81_sum⟩, List.forall_mem_cons.2 ⟨⟨⟨_, VF82_is⟩, VF82_okc, VF82_sum⟩, List.forall_mem_cons.2 ⟨⟨⟨_, VF83_is⟩, VF83_okc, VF83_sum⟩, List.forall_mem_cons.2 ⟨⟨⟨_, VF84_is⟩, VF84_okc, VF84_sum⟩, List.forall_mem_cons.2 ⟨⟨⟨_, VF85_is⟩, VF85_okc, VF85_sum⟩, List.forall_mem_cons.2 ⟨⟨⟨_, VF86_is⟩, VF86_okc, VF86_sum⟩, List.forall_mem_cons.2 ⟨⟨⟨_, VF117_is⟩, VF117_okc, VF117_sum⟩, List.forall_mem_cons.2 ⟨⟨⟨_, VF118_is⟩, VF118_okc, VF118_sum⟩, List.forall_mem_cons.2 ⟨⟨⟨_, VF119_is⟩, VF119_okc, VF119_sum⟩, List.forall_mem_cons.2 ⟨⟨⟨_, VF120_is⟩, VF120_okc, VF120_sum⟩, List.forall_mem_cons.2 ⟨⟨⟨_, VF133_is⟩, VF133_okc, VF133_sum⟩, List.forall_mem_cons.2 ⟨⟨⟨_, VF134_is⟩, VF134_okc, VF134_sum⟩, List.forall_mem_cons.2 ⟨⟨⟨_, VF139_is⟩, VF139_okc, VF139_sum⟩, List.forall_mem_cons.2 ⟨⟨⟨_, VF140_is⟩, VF140_okc, VF140_sum⟩, (fun _ h => by cases h)⟩⟩⟩⟩⟩⟩⟩⟩⟩⟩⟩⟩⟩⟩⟩⟩⟩⟩⟩⟩⟩⟩
theorem vtab_ok {f : FuncId} {vf : VFunc} (h : vtab f = some vf) : (∃ hs, cFunc Try.prog f hs = some vf.erase) ∧ vf.code.okc = true ∧ ∀ g, vf.sum = some g → VSum g vf.erase := by
  obtain ⟨r, hr, rfl⟩ := Option.map_eq_some_iff.1 h
  have h1 : r.1 = f := by
    have := List.find?_some hr
    simpa using this
  have := vrows_ok r (List.mem_of_find?_eq_some hr)
  rw [h1] at this
  exact this
theorem atab_ok {f : FuncId} {af : AFunc} (h : atab f = some af) : ∃ hs, cFunc Try.prog f hs = some af := by
  obtain ⟨vf, h1, rfl⟩ := Option.map_eq_some_iff.1 h
  exact (vtab_ok h1).1
theorem call_of {kn K d : Nat} {fr : Fr} {f : FuncId} {args : List AV} {H : Heap} {vf : VFunc} (hk : isKn kn = true) (hf : isKn f = false) (hT : vtab f = some vf) (hs : vf.sum = none := by rfl) (hl : vf.lists = true := by rfl) :
    vcall kn vtab K (d + 1) fr f args H = vfrz (vcallB (vcall kn vtab K d) vtab K fr f) H (frzL (frz H 5 false) args) := by
  simp [vcall, isKn_ne hk hf, hT, hs, hl]
theorem call_raw {kn K d : Nat} {fr : Fr} {f : FuncId} {args : List AV} {H : Heap} {vf : VFunc} (hk : isKn kn = true) (hf : isKn f = false) (hT : vtab f = some vf) (hs : vf.sum = none := by rfl) (hl : vf.lists = false := by rfl) :
    vcall kn vtab K (d + 1) fr f args H = vcallB (vcall kn vtab K d) vtab K fr f args H := by
  simp [vcall, isKn_ne hk hf, hT, hs, hl]
theorem sum_of {kn K d : Nat} {fr : Fr} {f : FuncId} {args : List AV} {H : Heap} {vf : VFunc} {g : List AV → Heap → Option (AV × Heap)} (hk : isKn kn = true) (hf : isKn f = false) (hT : vtab f = some vf) (hs : vf.sum = some g) :
    vcall kn vtab K (d + 1) fr f args H = g args H := by
  simp [vcall, isKn_ne hk hf, hT, hs]
/-- A body that writes to nothing older. -/
theorem body_bare {C : VCalls} {K : Nat} {fr : Fr} {f : FuncId} {args : List AV} {H : Heap} {vf : VFunc} (hT : vtab f = some vf) (hb : vf.bare = true) :
    vcallB C vtab K fr f args H = vbody C K vf args H { mark := H.next, tidy := [] } := by
  simp [vcallB, hT, hb]
theorem body_full {C : VCalls} {K : Nat} {fr : Fr} {f : FuncId} {args : List AV} {H : Heap} {vf : VFunc} (hT : vtab f = some vf) (hb : vf.bare = false) :
    vcallB C vtab K fr f args H = if (reach H (idsOfL args)).all (fun b => decide (fr.mark ≤ b) || fr.tidy.contains b) then vbody C K vf args H { mark := H.next, tidy := reach H (idsOfL args) } else none := by
  simp [vcallB, hT, hb]
theorem vcall_kn {kn K d : Nat} {fr : Fr} {H : Heap} : vcall kn vtab K (d + 1) fr kn [] H = some (.bool true, H) := by
  simp [vcall]

end Go.Proofs.Ytachollgbplikaa
