/- The functions by number. -/
import Derived.Test.YteibgagdnidojaaJ5
import Derived.Test.YteibgagdnidojaaJ6
import Derived.Test.YteibgagdnidojaaX1
set_option linter.all false
set_option maxRecDepth 100000
namespace Go.Proofs.Yteibgagdnidojaa
def lookN {α : Type} : List (Nat × α) → Nat → Option α
  | [], _ => none
  | p :: r, n => match Nat.beq p.1 n with
    | true => some p.2
    | false => lookN r n
theorem lookN_mem {α : Type} : ∀ {l : List (Nat × α)} {n : Nat} {x : α}, lookN l n = some x → (n, x) ∈ l
  | [], n, x, h => by cases h
  | p :: r, n, x, h => by
    simp only [lookN] at h
    split at h
    · rename_i e
      obtain rfl := Option.some.inj h
      rw [← Nat.eq_of_beq_eq_true e]
      exact List.mem_cons_self
    · exact List.mem_cons_of_mem _ (lookN_mem h)
def atabL : List (Nat × AFunc) := [(20, WF20), (26, WF26), (52, WF52), (53, WF53), (54, WF54), (55, WF55), (56, WF56), (57, WF57), (58, WF58), (59, WF59), (60, WF60), (62, WF62), (63, WF63), (64, WF64), (65, WF65), (66, WF66), (79, WF79), (80, WF80), (81, WF81), (82, WF82), (83, WF83), (89, WF89)]
def atabT : FuncId → Option AFunc := lookN atabL
def wGL : List (Nat × (List AV → Heap → Option (AV × Heap))) := []
def wG : Sums := lookN wGL
theorem wG_all : ∀ p ∈ wGL, (Bodied Try.prog p.1 ∧ Sound Try.prog p.1 p.2) ∨ ExtOk Try.prog p.1 p.2 :=
  (fun _ h => by cases h)
theorem wG_ok : ∀ f g, wG f = some g → (Bodied Try.prog f ∧ Sound Try.prog f g) ∨ ExtOk Try.prog f g := fun f g h => wG_all (f, g) (lookN_mem h)
def atab : Tab := (wG, atabT)
theorem atab_all : ∀ p ∈ atabL, ∃ h, cFunc Try.prog p.1 h = some p.2 :=
  List.forall_mem_cons.2 ⟨⟨_, WF20_is⟩, List.forall_mem_cons.2 ⟨⟨_, WF26_is⟩, List.forall_mem_cons.2 ⟨⟨_, WF52_is⟩, List.forall_mem_cons.2 ⟨⟨_, WF53_is⟩, List.forall_mem_cons.2 ⟨⟨_, WF54_is⟩, List.forall_mem_cons.2 ⟨⟨_, WF55_is⟩, List.forall_mem_cons.2 ⟨⟨_, WF56_is⟩, List.forall_mem_cons.2 ⟨⟨_, WF57_is⟩, List.forall_mem_cons.2 ⟨⟨_, WF58_is⟩, List.forall_mem_cons.2 ⟨⟨_, WF59_is⟩, List.forall_mem_cons.2 ⟨⟨_, WF60_is⟩, List.forall_mem_cons.2 ⟨⟨_, WF62_is⟩, List.forall_mem_cons.2 ⟨⟨_, WF63_is⟩, List.forall_mem_cons.2 ⟨⟨_, WF64_is⟩, List.forall_mem_cons.2 ⟨⟨_, WF65_is⟩, List.forall_mem_cons.2 ⟨⟨_, WF66_is⟩, List.forall_mem_cons.2 ⟨⟨_, WF79_is⟩, List.forall_mem_cons.2 ⟨⟨_, WF80_is⟩, List.forall_mem_cons.2 ⟨⟨_, WF81_is⟩, List.forall_mem_cons.2 ⟨⟨_, WF82_is⟩, List.forall_mem_cons.2 ⟨⟨_, WF83_is⟩, List.forall_mem_cons.2 ⟨⟨_, WF89_is⟩, (fun _ h => by cases h)⟩⟩⟩⟩⟩⟩⟩⟩⟩⟩⟩⟩⟩⟩⟩⟩⟩⟩⟩⟩⟩⟩
theorem atab_is {f : FuncId} {x : AFunc} (h : atabT f = some x) : ∃ hs, cFunc Try.prog f hs = some x := atab_all (f, x) (lookN_mem h)
theorem atab_20 : atab.2 20 = some WF20 := by kernel_rfl
theorem atab_26 : atab.2 26 = some WF26 := by kernel_rfl
theorem atab_52 : atab.2 52 = some WF52 := by kernel_rfl
theorem atab_53 : atab.2 53 = some WF53 := by kernel_rfl
theorem atab_54 : atab.2 54 = some WF54 := by kernel_rfl
theorem atab_55 : atab.2 55 = some WF55 := by kernel_rfl
theorem atab_56 : atab.2 56 = some WF56 := by kernel_rfl
theorem atab_57 : atab.2 57 = some WF57 := by kernel_rfl
theorem atab_58 : atab.2 58 = some WF58 := by kernel_rfl
theorem atab_59 : atab.2 59 = some WF59 := by kernel_rfl
theorem atab_60 : atab.2 60 = some WF60 := by kernel_rfl
theorem atab_62 : atab.2 62 = some WF62 := by kernel_rfl
theorem atab_63 : atab.2 63 = some WF63 := by kernel_rfl
theorem atab_64 : atab.2 64 = some WF64 := by kernel_rfl
theorem atab_65 : atab.2 65 = some WF65 := by kernel_rfl
theorem atab_66 : atab.2 66 = some WF66 := by kernel_rfl
theorem atab_79 : atab.2 79 = some WF79 := by kernel_rfl
theorem atab_80 : atab.2 80 = some WF80 := by kernel_rfl
theorem atab_81 : atab.2 81 = some WF81 := by kernel_rfl
theorem atab_82 : atab.2 82 = some WF82 := by kernel_rfl
theorem atab_83 : atab.2 83 = some WF83 := by kernel_rfl
theorem atab_89 : atab.2 89 = some WF89 := by kernel_rfl
def wBL : List (Nat × Bt) := [(79, .clone 1 1), (80, .clip 1), (89, .grow 1 1)]
def wB : FuncId → Option Bt := lookN wBL
theorem wB_all (d : Nat) : ∀ p ∈ wBL, BOk (wcalls atab (d + 1)) p.1 p.2 :=
  List.forall_mem_cons.2 ⟨clone_bok (zero := [(.int .u8 0)]) rfl (show atab.2 79 = some (cloneF 1 1 [(.int .u8 0)]) by kernel_rfl), List.forall_mem_cons.2 ⟨clip_bok rfl (show atab.2 80 = some (clipF 1) by kernel_rfl), List.forall_mem_cons.2 ⟨grow_bok (zero := [(.int .u8 0)]) rfl rfl (show atab.2 89 = some (growF 1 1 [(.int .u8 0)]) by kernel_rfl), (fun _ h => by cases h)⟩⟩⟩
theorem wB_ok (d : Nat) : ∀ f b, wB f = some b → BOk (wcalls atab (d + 1)) f b := fun f b h => wB_all d (f, b) (lookN_mem h)
end Go.Proofs.Yteibgagdnidojaa
