/- The functions by number. -/
import Derived.Test.YtachollgbplikaaJ5
import Derived.Test.YtachollgbplikaaX1
set_option linter.all false
set_option maxRecDepth 100000
namespace Go.Proofs.Ytachollgbplikaa
def lookN {α : Type} : List (Nat × α) → Nat → Option α
  | [], _ => none
  | p :: r, n => match Nat.beq p.1 n with
    | true => some p.2
    | false => lookN r n
theorem lookN_mem {α : Type} : ∀ {l : List (Nat × α)} {n : Nat} {x : α}, lookN l n = some x → (n, x) ∈ l
  | [], n, x, h => by cases h
  | p :: r, n, x, h => by
    simp only [lookN] at h
    split at h
    · rename_i e
      obtain rfl := Option.some.inj h
      rw [← Nat.eq_of_beq_eq_true e]
      exact List.mem_cons_self
    · exact List.mem_cons_of_mem _ (lookN_mem h)
def atabL : List (Nat × AFunc) := [(12, WF12), (23, WF23), (24, WF24), (28, WF28), (30, WF30), (31, WF31), (32, WF32), (33, WF33), (34, WF34), (35, WF35), (36, WF36), (37, WF37), (38, WF38), (39, WF39), (40, WF40), (41, WF41), (42, WF42), (43, WF43), (50, WF50), (80, WF80), (81, WF81), (82, WF82), (83, WF83), (84, WF84), (85, WF85), (86, WF86), (91, WF91), (92, WF92), (117, WF117), (118, WF118), (119, WF119), (120, WF120), (124, WF124), (125, WF125), (133, WF133), (134, WF134), (135, WF135), (139, WF139), (140, WF140)]
def atab : FuncId → Option AFunc := lookN atabL
theorem atab_all : ∀ p ∈ atabL, ∃ h, cFunc Try.prog p.1 h = some p.2 :=
  List.forall_mem_cons.2 ⟨⟨_, WF12_is⟩, List.forall_mem_cons.2 ⟨⟨_, WF23_is⟩, List.forall_mem_cons.2 ⟨⟨_, WF24_is⟩, List.forall_mem_cons.2 ⟨⟨_, WF28_is⟩, List.forall_mem_cons.2 ⟨⟨_, WF30_is⟩, List.forall_mem_cons.2 ⟨⟨_, WF31_is⟩, List.forall_mem_cons.2 ⟨⟨_, WF32_is⟩, List.forall_mem_cons.2 ⟨⟨_, WF33_is⟩, List.forall_mem_cons.2 ⟨⟨_, WF34_is⟩, List.forall_mem_cons.2 ⟨⟨_, WF35_is⟩, List.forall_mem_cons.2 ⟨⟨_, WF36_is⟩, List.forall_mem_cons.2 ⟨⟨_, WF37_is⟩, List.forall_mem_cons.2 ⟨⟨_, WF38_is⟩, List.forall_mem_cons.2 ⟨⟨_, WF39_is⟩, List.forall_mem_cons.2 ⟨⟨_, WF40_is⟩, List.forall_mem_cons.2 ⟨⟨_, WF41_is⟩, List.forall_mem_cons.2 ⟨⟨_, WF42_is⟩, List.forall_mem_cons.2 ⟨⟨_, WF43_is⟩, List.forall_mem_cons.2 ⟨⟨_, WF50_is⟩, List.forall_mem_cons.2 ⟨⟨_, WF80_is⟩, List.forall_mem_cons.2 ⟨⟨_, WF81_is⟩, List.forall_mem_cons.2 ⟨⟨_, WF82_is⟩, List.forall_mem_cons.2 ⟨⟨_, WF83_is⟩, List.forall_mem_cons.2 ⟨⟨_, WF84_is⟩, List.forall_mem_cons.2 ⟨⟨_, WF85_is⟩, List.forall_mem_cons.2 ⟨⟨_, WF86_is⟩, List.forall_mem_cons.2 ⟨⟨_, WF91_is⟩, List.forall_mem_cons.2 ⟨⟨_, WF92_is⟩, List.forall_mem_cons.2 ⟨⟨_, WF117_is⟩, List.forall_mem_cons.2 ⟨⟨_, WF118_is⟩, List.forall_mem_cons.2 ⟨⟨_, WF119_is⟩, List.forall_mem_cons.2 ⟨⟨_, WF120_is⟩, List.forall_mem_cons.2 ⟨⟨_, WF124_is⟩, List.forall_mem_cons.2 ⟨⟨_, WF125_is⟩, List.forall_mem_cons.2 ⟨⟨_, WF133_is⟩, List.forall_mem_cons.2 ⟨⟨_, WF134_is⟩, List.forall_mem_cons.2 ⟨⟨_, WF135_is⟩, List.forall_mem_cons.2 ⟨⟨_, WF139_is⟩, List.forall_mem_cons.2 ⟨⟨_, WF140_is⟩, (fun _ h => by cases h)⟩⟩⟩⟩⟩⟩⟩⟩⟩⟩⟩⟩⟩⟩⟩⟩⟩⟩⟩⟩⟩⟩⟩⟩⟩⟩⟩⟩⟩⟩⟩⟩⟩⟩⟩⟩⟩⟩⟩
theorem atab_is {f : FuncId} {x : AFunc} (h : atab f = some x) : ∃ hs, cFunc Try.prog f hs = some x := atab_all (f, x) (lookN_mem h)
theorem atab_12 : atab 12 = some WF12 := by kernel_rfl
theorem atab_23 : atab 23 = some WF23 := by kernel_rfl
theorem atab_24 : atab 24 = some WF24 := by kernel_rfl
theorem atab_28 : atab 28 = some WF28 := by kernel_rfl
theorem atab_30 : atab 30 = some WF30 := by kernel_rfl
theorem atab_31 : atab 31 = some WF31 := by kernel_rfl
theorem atab_32 : atab 32 = some WF32 := by kernel_rfl
theorem atab_33 : atab 33 = some WF33 := by kernel_rfl
theorem atab_34 : atab 34 = some WF34 := by kernel_rfl
theorem atab_35 : atab 35 = some WF35 := by kernel_rfl
theorem atab_36 : atab 36 = some WF36 := by kernel_rfl
theorem atab_37 : atab 37 = some WF37 := by kernel_rfl
theorem atab_38 : atab 38 = some WF38 := by kernel_rfl
theorem atab_39 : atab 39 = some WF39 := by kernel_rfl
theorem atab_40 : atab 40 = some WF40 := by kernel_rfl
theorem atab_41 : atab 41 = some WF41 := by kernel_rfl
theorem atab_42 : atab 42 = some WF42 := by kernel_rfl
theorem atab_43 : atab 43 = some WF43 := by kernel_rfl
theorem atab_50 : atab 50 = some WF50 := by kernel_rfl
theorem atab_80 : atab 80 = some WF80 := by kernel_rfl
theorem atab_81 : atab 81 = some WF81 := by kernel_rfl
theorem atab_82 : atab 82 = some WF82 := by kernel_rfl
theorem atab_83 : atab 83 = some WF83 := by kernel_rfl
theorem atab_84 : atab 84 = some WF84 := by kernel_rfl
theorem atab_85 : atab 85 = some WF85 := by kernel_rfl
theorem atab_86 : atab 86 = some WF86 := by kernel_rfl
theorem atab_91 : atab 91 = some WF91 := by kernel_rfl
theorem atab_92 : atab 92 = some WF92 := by kernel_rfl
theorem atab_117 : atab 117 = some WF117 := by kernel_rfl
theorem atab_118 : atab 118 = some WF118 := by kernel_rfl
theorem atab_119 : atab 119 = some WF119 := by kernel_rfl
theorem atab_120 : atab 120 = some WF120 := by kernel_rfl
theorem atab_124 : atab 124 = some WF124 := by kernel_rfl
theorem atab_125 : atab 125 = some WF125 := by kernel_rfl
theorem atab_133 : atab 133 = some WF133 := by kernel_rfl
theorem atab_134 : atab 134 = some WF134 := by kernel_rfl
theorem atab_135 : atab 135 = some WF135 := by kernel_rfl
theorem atab_139 : atab 139 = some WF139 := by kernel_rfl
theorem atab_140 : atab 140 = some WF140 := by kernel_rfl
def wBL : List (Nat × Bt) := [(80, .clone 1 1), (84, .clip 1), (86, .clip 1), (117, .grow 1 1)]
def wB : FuncId → Option Bt := lookN wBL
theorem wB_all (d : Nat) : ∀ p ∈ wBL, BOk (wcalls atab (d + 1)) p.1 p.2 :=
  List.forall_mem_cons.2 ⟨clone_bok (zero := [(.int .u8 0)]) (show atab 80 = some (cloneF 1 1 [(.int .u8 0)]) by kernel_rfl), List.forall_mem_cons.2 ⟨clip_bok (show atab 84 = some (clipF 1) by kernel_rfl), List.forall_mem_cons.2 ⟨clip_bok (show atab 86 = some (clipF 1) by kernel_rfl), List.forall_mem_cons.2 ⟨grow_bok (zero := [(.int .u8 0)]) rfl (show atab 117 = some (growF 1 1 [(.int .u8 0)]) by kernel_rfl), (fun _ h => by cases h)⟩⟩⟩⟩
theorem wB_ok (d : Nat) : ∀ f b, wB f = some b → BOk (wcalls atab (d + 1)) f b := fun f b h => wB_all d (f, b) (lookN_mem h)
end Go.Proofs.Ytachollgbplikaa
