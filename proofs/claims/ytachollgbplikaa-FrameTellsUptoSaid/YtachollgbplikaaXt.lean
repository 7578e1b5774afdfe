/- The functions by number. -/
import Derived.Test.YtachollgbplikaaJ5
import Derived.Test.YtachollgbplikaaX1
set_option linter.all false
set_option maxRecDepth 100000
namespace Go.Proofs.Ytachollgbplikaa
def lookN {α : Type} : List (Nat × α) → Nat → Option α
  | [], _ => none
  | p :: r, n => match Nat.beq p.1 n with
    | true => some p.2
    | false => lookN r n
theorem lookN_mem {α : Type} : ∀ {l : List (Nat × α)} {n : Nat} {x : α}, lookN l n = some x → (n, x) ∈ l
  | [], n, x, h => by cases h
  | p :: r, n, x, h => by
    simp only [lookN] at h
    split at h
    · rename_i e
      obtain rfl := Option.some.inj h
      rw [← Nat.eq_of_beq_eq_true e]
      exact List.mem_cons_self
    · exact List.mem_cons_of_mem _ (lookN_mem h)
def atabL : List (Nat × AFunc) := [(4, WF4), (23, WF23), (24, WF24), (25, WF25), (26, WF26), (27, WF27), (28, WF28), (29, WF29), (34, WF34), (80, WF80), (81, WF81), (82, WF82), (83, WF83), (84, WF84), (85, WF85), (86, WF86), (87, WF87), (88, WF88), (89, WF89), (90, WF90), (117, WF117), (118, WF118), (119, WF119), (120, WF120), (121, WF121), (122, WF122), (123, WF123), (133, WF133), (134, WF134), (139, WF139), (140, WF140)]
def atab : FuncId → Option AFunc := lookN atabL
theorem atab_all : ∀ p ∈ atabL, ∃ h, cFunc Try.prog p.1 h = some p.2 :=
  List.forall_mem_cons.2 ⟨⟨_, WF4_is⟩, List.forall_mem_cons.2 ⟨⟨_, WF23_is⟩, List.forall_mem_cons.2 ⟨⟨_, WF24_is⟩, List.forall_mem_cons.2 ⟨⟨_, WF25_is⟩, List.forall_mem_cons.2 ⟨⟨_, WF26_is⟩, List.forall_mem_cons.2 ⟨⟨_, WF27_is⟩, List.forall_mem_cons.2 ⟨⟨_, WF28_is⟩, List.forall_mem_cons.2 ⟨⟨_, WF29_is⟩, List.forall_mem_cons.2 ⟨⟨_, WF34_is⟩, List.forall_mem_cons.2 ⟨⟨_, WF80_is⟩, List.forall_mem_cons.2 ⟨⟨_, WF81_is⟩, List.forall_mem_cons.2 ⟨⟨_, WF82_is⟩, List.forall_mem_cons.2 ⟨⟨_, WF83_is⟩, List.forall_mem_cons.2 ⟨⟨_, WF84_is⟩, List.forall_mem_cons.2 ⟨⟨_, WF85_is⟩, List.forall_mem_cons.2 ⟨⟨_, WF86_is⟩, List.forall_mem_cons.2 ⟨⟨_, WF87_is⟩, List.forall_mem_cons.2 ⟨⟨_, WF88_is⟩, List.forall_mem_cons.2 ⟨⟨_, WF89_is⟩, List.forall_mem_cons.2 ⟨⟨_, WF90_is⟩, List.forall_mem_cons.2 ⟨⟨_, WF117_is⟩, List.forall_mem_cons.2 ⟨⟨_, WF118_is⟩, List.forall_mem_cons.2 ⟨⟨_, WF119_is⟩, List.forall_mem_cons.2 ⟨⟨_, WF120_is⟩, List.forall_mem_cons.2 ⟨⟨_, WF121_is⟩, List.forall_mem_cons.2 ⟨⟨_, WF122_is⟩, List.forall_mem_cons.2 ⟨⟨_, WF123_is⟩, List.forall_mem_cons.2 ⟨⟨_, WF133_is⟩, List.forall_mem_cons.2 ⟨⟨_, WF134_is⟩, List.forall_mem_cons.2 ⟨⟨_, WF139_is⟩, List.forall_mem_cons.2 ⟨⟨_, WF140_is⟩, (fun _ h => by cases h)⟩⟩⟩⟩⟩⟩⟩⟩⟩⟩⟩⟩⟩⟩⟩⟩⟩⟩⟩⟩⟩⟩⟩⟩⟩⟩⟩⟩⟩⟩⟩
theorem atab_is {f : FuncId} {x : AFunc} (h : atab f = some x) : ∃ hs, cFunc Try.prog f hs = some x := atab_all (f, x) (lookN_mem h)
theorem atab_4 : atab 4 = some WF4 := by kernel_rfl
theorem atab_23 : atab 23 = some WF23 := by kernel_rfl
theorem atab_24 : atab 24 = some WF24 := by kernel_rfl
theorem atab_25 : atab 25 = some WF25 := by kernel_rfl
theorem atab_26 : atab 26 = some WF26 := by kernel_rfl
theorem atab_27 : atab 27 = some WF27 := by kernel_rfl
theorem atab_28 : atab 28 = some WF28 := by kernel_rfl
theorem atab_29 : atab 29 = some WF29 := by kernel_rfl
theorem atab_34 : atab 34 = some WF34 := by kernel_rfl
theorem atab_80 : atab 80 = some WF80 := by kernel_rfl
theorem atab_81 : atab 81 = some WF81 := by kernel_rfl
theorem atab_82 : atab 82 = some WF82 := by kernel_rfl
theorem atab_83 : atab 83 = some WF83 := by kernel_rfl
theorem atab_84 : atab 84 = some WF84 := by kernel_rfl
theorem atab_85 : atab 85 = some WF85 := by kernel_rfl
theorem atab_86 : atab 86 = some WF86 := by kernel_rfl
theorem atab_87 : atab 87 = some WF87 := by kernel_rfl
theorem atab_88 : atab 88 = some WF88 := by kernel_rfl
theorem atab_89 : atab 89 = some WF89 := by kernel_rfl
theorem atab_90 : atab 90 = some WF90 := by kernel_rfl
theorem atab_117 : atab 117 = some WF117 := by kernel_rfl
theorem atab_118 : atab 118 = some WF118 := by kernel_rfl
theorem atab_119 : atab 119 = some WF119 := by kernel_rfl
theorem atab_120 : atab 120 = some WF120 := by kernel_rfl
theorem atab_121 : atab 121 = some WF121 := by kernel_rfl
theorem atab_122 : atab 122 = some WF122 := by kernel_rfl
theorem atab_123 : atab 123 = some WF123 := by kernel_rfl
theorem atab_133 : atab 133 = some WF133 := by kernel_rfl
theorem atab_134 : atab 134 = some WF134 := by kernel_rfl
theorem atab_139 : atab 139 = some WF139 := by kernel_rfl
theorem atab_140 : atab 140 = some WF140 := by kernel_rfl
def wBL : List (Nat × Bt) := [(80, .clone 1 1), (84, .clip 1), (86, .clip 1), (117, .grow 1 1)]
def wB : FuncId → Option Bt := lookN wBL
theorem wB_all (d : Nat) : ∀ p ∈ wBL, BOk (wcalls atab (d + 1)) p.1 p.2 :=
  List.forall_mem_cons.2 ⟨clone_bok (zero := [(.int .u8 0)]) (show atab 80 = some (cloneF 1 1 [(.int .u8 0)]) by kernel_rfl), List.forall_mem_cons.2 ⟨clip_bok (show atab 84 = some (clipF 1) by kernel_rfl), List.forall_mem_cons.2 ⟨clip_bok (show atab 86 = some (clipF 1) by kernel_rfl), List.forall_mem_cons.2 ⟨grow_bok (zero := [(.int .u8 0)]) rfl (show atab 117 = some (growF 1 1 [(.int .u8 0)]) by kernel_rfl), (fun _ h => by cases h)⟩⟩⟩⟩
theorem wB_ok (d : Nat) : ∀ f b, wB f = some b → BOk (wcalls atab (d + 1)) f b := fun f b h => wB_all d (f, b) (lookN_mem h)
end Go.Proofs.Ytachollgbplikaa
