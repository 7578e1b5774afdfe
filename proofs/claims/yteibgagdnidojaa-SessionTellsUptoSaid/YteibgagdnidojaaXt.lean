/- The functions by number. -/
import Derived.Test.YteibgagdnidojaaJ5
import Derived.Test.YteibgagdnidojaaJ6
import Derived.Test.YteibgagdnidojaaX1
set_option linter.all false
set_option maxRecDepth 100000
namespace Go.Proofs.Yteibgagdnidojaa
def lookN {α : Type} : List (Nat × α) → Nat → Option α
  | [], _ => none
  | p :: r, n => match Nat.beq p.1 n with
    | true => some p.2
    | false => lookN r n
theorem lookN_mem {α : Type} : ∀ {l : List (Nat × α)} {n : Nat} {x : α}, lookN l n = some x → (n, x) ∈ l
  | [], n, x, h => by cases h
  | p :: r, n, x, h => by
    simp only [lookN] at h
    split at h
    · rename_i e
      obtain rfl := Option.some.inj h
      rw [← Nat.eq_of_beq_eq_true e]
      exact List.mem_cons_self
    · exact List.mem_cons_of_mem _ (lookN_mem h)
def atabL : List (Nat × AFunc) := [(14, WF14), (26, WF26), (38, WF38), (39, WF39), (40, WF40), (41, WF41), (42, WF42), (43, WF43), (44, WF44), (45, WF45), (46, WF46), (47, WF47), (48, WF48), (77, WF77), (78, WF78)]
def atabT : FuncId → Option AFunc := lookN atabL
def wGL : List (Nat × (List AV → Heap → Option (AV × Heap))) := []
def wG : Sums := lookN wGL
theorem wG_all : ∀ p ∈ wGL, (Bodied Try.prog p.1 ∧ Sound Try.prog p.1 p.2) ∨ ExtOk Try.prog p.1 p.2 :=
  (fun _ h => by cases h)
theorem wG_ok : ∀ f g, wG f = some g → (Bodied Try.prog f ∧ Sound Try.prog f g) ∨ ExtOk Try.prog f g := fun f g h => wG_all (f, g) (lookN_mem h)
def atab : Tab := (wG, atabT)
theorem atab_all : ∀ p ∈ atabL, ∃ h, cFunc Try.prog p.1 h = some p.2 :=
  List.forall_mem_cons.2 ⟨⟨_, WF14_is⟩, List.forall_mem_cons.2 ⟨⟨_, WF26_is⟩, List.forall_mem_cons.2 ⟨⟨_, WF38_is⟩, List.forall_mem_cons.2 ⟨⟨_, WF39_is⟩, List.forall_mem_cons.2 ⟨⟨_, WF40_is⟩, List.forall_mem_cons.2 ⟨⟨_, WF41_is⟩, List.forall_mem_cons.2 ⟨⟨_, WF42_is⟩, List.forall_mem_cons.2 ⟨⟨_, WF43_is⟩, List.forall_mem_cons.2 ⟨⟨_, WF44_is⟩, List.forall_mem_cons.2 ⟨⟨_, WF45_is⟩, List.forall_mem_cons.2 ⟨⟨_, WF46_is⟩, List.forall_mem_cons.2 ⟨⟨_, WF47_is⟩, List.forall_mem_cons.2 ⟨⟨_, WF48_is⟩, List.forall_mem_cons.2 ⟨⟨_, WF77_is⟩, List.forall_mem_cons.2 ⟨⟨_, WF78_is⟩, (fun _ h => by cases h)⟩⟩⟩⟩⟩⟩⟩⟩⟩⟩⟩⟩⟩⟩⟩
theorem atab_is {f : FuncId} {x : AFunc} (h : atabT f = some x) : ∃ hs, cFunc Try.prog f hs = some x := atab_all (f, x) (lookN_mem h)
theorem atab_14 : atab.2 14 = some WF14 := by kernel_rfl
theorem atab_26 : atab.2 26 = some WF26 := by kernel_rfl
theorem atab_38 : atab.2 38 = some WF38 := by kernel_rfl
theorem atab_39 : atab.2 39 = some WF39 := by kernel_rfl
theorem atab_40 : atab.2 40 = some WF40 := by kernel_rfl
theorem atab_41 : atab.2 41 = some WF41 := by kernel_rfl
theorem atab_42 : atab.2 42 = some WF42 := by kernel_rfl
theorem atab_43 : atab.2 43 = some WF43 := by kernel_rfl
theorem atab_44 : atab.2 44 = some WF44 := by kernel_rfl
theorem atab_45 : atab.2 45 = some WF45 := by kernel_rfl
theorem atab_46 : atab.2 46 = some WF46 := by kernel_rfl
theorem atab_47 : atab.2 47 = some WF47 := by kernel_rfl
theorem atab_48 : atab.2 48 = some WF48 := by kernel_rfl
theorem atab_77 : atab.2 77 = some WF77 := by kernel_rfl
theorem atab_78 : atab.2 78 = some WF78 := by kernel_rfl
def wBL : List (Nat × Bt) := [(78, .clip 4)]
def wB : FuncId → Option Bt := lookN wBL
theorem wB_all (d : Nat) : ∀ p ∈ wBL, BOk (wcalls atab (d + 1)) p.1 p.2 :=
  List.forall_mem_cons.2 ⟨clip_bok rfl (show atab.2 78 = some (clipF 4) by kernel_rfl), (fun _ h => by cases h)⟩
theorem wB_ok (d : Nat) : ∀ f b, wB f = some b → BOk (wcalls atab (d + 1)) f b := fun f b h => wB_all d (f, b) (lookN_mem h)
end Go.Proofs.Yteibgagdnidojaa
