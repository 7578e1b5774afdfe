/- The functions by number. -/
import Derived.Test.YtkedeiklmpkgkaaJ5
import Derived.Test.YtkedeiklmpkgkaaJ6
import Derived.Test.YtkedeiklmpkgkaaX1
set_option linter.all false
set_option maxRecDepth 100000
namespace Go.Proofs.Ytkedeiklmpkgkaa
def lookN {α : Type} : List (Nat × α) → Nat → Option α
  | [], _ => none
  | p :: r, n => match Nat.beq p.1 n with
    | true => some p.2
    | false => lookN r n
theorem lookN_mem {α : Type} : ∀ {l : List (Nat × α)} {n : Nat} {x : α}, lookN l n = some x → (n, x) ∈ l
  | [], n, x, h => by cases h
  | p :: r, n, x, h => by
    simp only [lookN] at h
    split at h
    · rename_i e
      obtain rfl := Option.some.inj h
      rw [← Nat.eq_of_beq_eq_true e]
      exact List.mem_cons_self
    · exact List.mem_cons_of_mem _ (lookN_mem h)
noncomputable def atabL : List (Nat × AFunc) := [(5, WF5), (26, WF26), (27, WF27), (28, WF28), (65, WF65), (66, WF66), (67, WF67), (68, WF68), (69, WF69), (70, WF70), (71, WF71), (100, WF100), (101, WF101), (102, WF102), (103, WF103), (121, WF121), (122, WF122), (130, WF130), (131, WF131)]
noncomputable def atabT : FuncId → Option AFunc := lookN atabL
def wGL : List (Nat × (List AV → Heap → Option (AV × Heap))) := []
def wG : Sums := lookN wGL
theorem wG_all : ∀ p ∈ wGL, (Bodied Try.prog p.1 ∧ Sound Try.prog p.1 p.2) ∨ ExtOk Try.prog p.1 p.2 :=
  (fun _ h => by cases h)
theorem wG_ok : ∀ f g, wG f = some g → (Bodied Try.prog f ∧ Sound Try.prog f g) ∨ ExtOk Try.prog f g := fun f g h => wG_all (f, g) (lookN_mem h)
noncomputable def atab : Tab := (wG, atabT)
theorem atab_all : ∀ p ∈ atabL, ∃ h, cFunc Try.prog p.1 h = some p.2 :=
  List.forall_mem_cons.2 ⟨⟨_, WF5_is⟩, List.forall_mem_cons.2 ⟨⟨_, WF26_is⟩, List.forall_mem_cons.2 ⟨⟨_, WF27_is⟩, List.forall_mem_cons.2 ⟨⟨_, WF28_is⟩, List.forall_mem_cons.2 ⟨⟨_, WF65_is⟩, List.forall_mem_cons.2 ⟨⟨_, WF66_is⟩, List.forall_mem_cons.2 ⟨⟨_, WF67_is⟩, List.forall_mem_cons.2 ⟨⟨_, WF68_is⟩, List.forall_mem_cons.2 ⟨⟨_, WF69_is⟩, List.forall_mem_cons.2 ⟨⟨_, WF70_is⟩, List.forall_mem_cons.2 ⟨⟨_, WF71_is⟩, List.forall_mem_cons.2 ⟨⟨_, WF100_is⟩, List.forall_mem_cons.2 ⟨⟨_, WF101_is⟩, List.forall_mem_cons.2 ⟨⟨_, WF102_is⟩, List.forall_mem_cons.2 ⟨⟨_, WF103_is⟩, List.forall_mem_cons.2 ⟨⟨_, WF121_is⟩, List.forall_mem_cons.2 ⟨⟨_, WF122_is⟩, List.forall_mem_cons.2 ⟨⟨_, WF130_is⟩, List.forall_mem_cons.2 ⟨⟨_, WF131_is⟩, (fun _ h => by cases h)⟩⟩⟩⟩⟩⟩⟩⟩⟩⟩⟩⟩⟩⟩⟩⟩⟩⟩⟩
theorem atab_is {f : FuncId} {x : AFunc} (h : atabT f = some x) : ∃ hs, cFunc Try.prog f hs = some x := atab_all (f, x) (lookN_mem h)
theorem AF5 : atab.1 5 = none ∧ atab.2 5 = some WF5 ∧ WF5.code.okc = true := sp_ rfl (by kernel_rfl) WF5_ok
theorem AF26 : atab.1 26 = none ∧ atab.2 26 = some WF26 ∧ WF26.code.okc = true := sp_ rfl (by kernel_rfl) WF26_ok
theorem AF27 : atab.1 27 = none ∧ atab.2 27 = some WF27 ∧ WF27.code.okc = true := sp_ rfl (by kernel_rfl) WF27_ok
theorem AF28 : atab.1 28 = none ∧ atab.2 28 = some WF28 ∧ WF28.code.okc = true := sp_ rfl (by kernel_rfl) WF28_ok
theorem AF65 : atab.1 65 = none ∧ atab.2 65 = some WF65 ∧ WF65.code.okc = true := sp_ rfl (by kernel_rfl) WF65_ok
theorem AF66 : atab.1 66 = none ∧ atab.2 66 = some WF66 ∧ WF66.code.okc = true := sp_ rfl (by kernel_rfl) WF66_ok
theorem AF67 : atab.1 67 = none ∧ atab.2 67 = some WF67 ∧ WF67.code.okc = true := sp_ rfl (by kernel_rfl) WF67_ok
theorem AF68 : atab.1 68 = none ∧ atab.2 68 = some WF68 ∧ WF68.code.okc = true := sp_ rfl (by kernel_rfl) WF68_ok
theorem AF69 : atab.1 69 = none ∧ atab.2 69 = some WF69 ∧ WF69.code.okc = true := sp_ rfl (by kernel_rfl) WF69_ok
theorem AF70 : atab.1 70 = none ∧ atab.2 70 = some WF70 ∧ WF70.code.okc = true := sp_ rfl (by kernel_rfl) WF70_ok
theorem AF71 : atab.1 71 = none ∧ atab.2 71 = some WF71 ∧ WF71.code.okc = true := sp_ rfl (by kernel_rfl) WF71_ok
theorem AF100 : atab.1 100 = none ∧ atab.2 100 = some WF100 ∧ WF100.code.okc = true := sp_ rfl (by kernel_rfl) WF100_ok
theorem AF101 : atab.1 101 = none ∧ atab.2 101 = some WF101 ∧ WF101.code.okc = true := sp_ rfl (by kernel_rfl) WF101_ok
theorem AF102 : atab.1 102 = none ∧ atab.2 102 = some WF102 ∧ WF102.code.okc = true := sp_ rfl (by kernel_rfl) WF102_ok
theorem AF103 : atab.1 103 = none ∧ atab.2 103 = some WF103 ∧ WF103.code.okc = true := sp_ rfl (by kernel_rfl) WF103_ok
theorem AF121 : atab.1 121 = none ∧ atab.2 121 = some WF121 ∧ WF121.code.okc = true := sp_ rfl (by kernel_rfl) WF121_ok
theorem AF122 : atab.1 122 = none ∧ atab.2 122 = some WF122 ∧ WF122.code.okc = true := sp_ rfl (by kernel_rfl) WF122_ok
theorem AF130 : atab.1 130 = none ∧ atab.2 130 = some WF130 ∧ WF130.code.okc = true := sp_ rfl (by kernel_rfl) WF130_ok
theorem AF131 : atab.1 131 = none ∧ atab.2 131 = some WF131 ∧ WF131.code.okc = true := sp_ rfl (by kernel_rfl) WF131_ok
def wBL : List (Nat × Bt) := [(66, .clip 1), (67, .clone 1 1), (71, .clip 1), (100, .grow 1 1)]
def wB : FuncId → Option Bt := lookN wBL
theorem wB_all (d : Nat) : ∀ p ∈ wBL, BOk (wcalls atab (d + 1)) p.1 p.2 :=
  List.forall_mem_cons.2 ⟨clip_bok rfl (show atab.2 66 = some (clipF 1) by kernel_rfl), List.forall_mem_cons.2 ⟨clone_bok (zero := [(.int .u8 0)]) rfl (show atab.2 67 = some (cloneF 1 1 [(.int .u8 0)]) by kernel_rfl), List.forall_mem_cons.2 ⟨clip_bok rfl (show atab.2 71 = some (clipF 1) by kernel_rfl), List.forall_mem_cons.2 ⟨grow_bok (zero := [(.int .u8 0)]) rfl rfl (show atab.2 100 = some (growF 1 1 [(.int .u8 0)]) by kernel_rfl), (fun _ h => by cases h)⟩⟩⟩⟩
theorem wB_ok (d : Nat) : ∀ f b, wB f = some b → BOk (wcalls atab (d + 1)) f b := fun f b h => wB_all d (f, b) (lookN_mem h)
end Go.Proofs.Ytkedeiklmpkgkaa
