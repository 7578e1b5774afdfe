/- The functions by number. -/
import Derived.Test.YtlcjmchhnbdepaaJ5
import Derived.Test.YtlcjmchhnbdepaaJ6
import Derived.Test.YtlcjmchhnbdepaaX1
set_option linter.all false
set_option maxRecDepth 100000
namespace Go.Proofs.Ytlcjmchhnbdepaa
def lookN {α : Type} : List (Nat × α) → Nat → Option α
  | [], _ => none
  | p :: r, n => match Nat.beq p.1 n with
    | true => some p.2
    | false => lookN r n
theorem lookN_mem {α : Type} : ∀ {l : List (Nat × α)} {n : Nat} {x : α}, lookN l n = some x → (n, x) ∈ l
  | [], n, x, h => by cases h
  | p :: r, n, x, h => by
    simp only [lookN] at h
    split at h
    · rename_i e
      obtain rfl := Option.some.inj h
      rw [← Nat.eq_of_beq_eq_true e]
      exact List.mem_cons_self
    · exact List.mem_cons_of_mem _ (lookN_mem h)
noncomputable def atabL : List (Nat × AFunc) := [(3, WF3), (8, WF8), (9, WF9), (10, WF10), (11, WF11), (15, WF15), (16, WF16), (20, WF20), (29, WF29), (30, WF30), (31, WF31), (32, WF32), (33, WF33), (34, WF34), (35, WF35), (44, WF44), (45, WF45), (47, WF47), (48, WF48), (60, WF60), (64, WF64), (65, WF65), (66, WF66), (67, WF67), (68, WF68), (69, WF69), (76, WF76), (77, WF77), (86, WF86), (87, WF87), (88, WF88), (89, WF89), (96, WF96), (97, WF97), (98, WF98), (101, WF101), (102, WF102), (103, WF103), (104, WF104), (106, WF106), (107, WF107), (108, WF108), (109, WF109), (110, WF110), (111, WF111), (113, WF113), (114, WF114), (115, WF115)]
noncomputable def atabT : FuncId → Option AFunc := lookN atabL
theorem atab_all : ∀ p ∈ atabL, ∃ h, cFunc Try.prog p.1 h = some p.2 :=
  List.forall_mem_cons.2 ⟨⟨_, WF3_is⟩, List.forall_mem_cons.2 ⟨⟨_, WF8_is⟩, List.forall_mem_cons.2 ⟨⟨_, WF9_is⟩, List.forall_mem_cons.2 ⟨⟨_, WF10_is⟩, List.forall_mem_cons.2 ⟨⟨_, WF11_is⟩, List.forall_mem_cons.2 ⟨⟨_, WF15_is⟩, List.forall_mem_cons.2 ⟨⟨_, WF16_is⟩, List.forall_mem_cons.2 ⟨⟨_, WF20_is⟩, List.forall_mem_cons.2 ⟨⟨_, WF29_is⟩, List.forall_mem_cons.2 ⟨⟨_, WF30_is⟩, List.forall_mem_cons.2 ⟨⟨_, WF31_is⟩, List.forall_mem_cons.2 ⟨⟨_, WF32_is⟩, List.forall_mem_cons.2 ⟨⟨_, WF33_is⟩, List.forall_mem_cons.2 ⟨⟨_, WF34_is⟩, List.forall_mem_cons.2 ⟨⟨_, WF35_is⟩, List.forall_mem_cons.2 ⟨⟨_, WF44_is⟩, List.forall_mem_cons.2 ⟨⟨_, WF45_is⟩, List.forall_mem_cons.2 ⟨⟨_, WF47_is⟩, List.forall_mem_cons.2 ⟨⟨_, WF48_is⟩, List.forall_mem_cons.2 ⟨⟨_, WF60_is⟩, List.forall_mem_cons.2 ⟨⟨_, WF64_is⟩, List.forall_mem_cons.2 ⟨⟨_, WF65_is⟩, List.forall_mem_cons.2 ⟨⟨_, WF66_is⟩, List.forall_mem_cons.2 ⟨⟨_, WF67_is⟩, List.forall_mem_cons.2 ⟨⟨_, WF68_is⟩, List.forall_mem_cons.2 ⟨⟨_, WF69_is⟩, List.forall_mem_cons.2 ⟨⟨_, WF76_is⟩, List.forall_mem_cons.2 ⟨⟨_, WF77_is⟩, List.forall_mem_cons.2 ⟨⟨_, WF86_is⟩, List.forall_mem_cons.2 ⟨⟨_, WF87_is⟩, List.forall_mem_cons.2 ⟨⟨_, WF88_is⟩, List.forall_mem_cons.2 ⟨⟨_, WF89_is⟩, List.forall_mem_cons.2 ⟨⟨_, WF96_is⟩, List.forall_mem_cons.2 ⟨⟨_, WF97_is⟩, List.forall_mem_cons.2 ⟨⟨_, WF98_is⟩, List.forall_mem_cons.2 ⟨⟨_, WF101_is⟩, List.forall_mem_cons.2 ⟨⟨_, WF102_is⟩, List.forall_mem_cons.2 ⟨⟨_, WF103_is⟩, List.forall_mem_cons.2 ⟨⟨_, WF104_is⟩, List.forall_mem_cons.2 ⟨⟨_, WF106_is⟩, List.forall_mem_cons.2 ⟨⟨_, WF107_is⟩, List.forall_mem_cons.2 ⟨⟨_, WF108_is⟩, List.forall_mem_cons.2 ⟨⟨_, WF109_is⟩, List.forall_mem_cons.2 ⟨⟨_, WF110_is⟩, List.forall_mem_cons.2 ⟨⟨_, WF111_is⟩, List.forall_mem_cons.2 ⟨⟨_, WF113_is⟩, List.forall_mem_cons.2 ⟨⟨_, WF114_is⟩, List.forall_mem_cons.2 ⟨⟨_, WF115_is⟩, (fun _ h => by cases h)⟩⟩⟩⟩⟩⟩⟩⟩⟩⟩⟩⟩⟩⟩⟩⟩⟩⟩⟩⟩⟩⟩⟩⟩⟩⟩⟩⟩⟩⟩⟩⟩⟩⟩⟩⟩⟩⟩⟩⟩⟩⟩⟩⟩⟩⟩⟩⟩
theorem atab_is {f : FuncId} {x : AFunc} (h : atabT f = some x) : ∃ hs, cFunc Try.prog f hs = some x := atab_all (f, x) (lookN_mem h)
theorem ov_112 : ExtOk Try.prog 112 ovG := ov_ext (fn := Try.f112) (tS := 35) (tR := 4) (e := 121) (size := 2) Try.func112 rfl rfl (by kernel_rfl) (by kernel_rfl) Try.underlying35 (by kernel_rfl)
def wG0L : List (Nat × (List AV → Heap → Option (AV × Heap))) := [(110, insG 2 32)]
def wG0 : Sums := lookN wG0L
theorem wG0_all : ∀ p ∈ wG0L, (Bodied Try.prog p.1 ∧ Sound Try.prog p.1 p.2) ∨ ExtOk Try.prog p.1 p.2 :=
  List.forall_mem_cons.2 ⟨.inl (insG_sound (hs := []) (zero := [(.str []), (.str [])]) rfl (by decide) (show cFunc Try.prog 110 [] = some (insF 2 32 [(.str []), (.str [])] 112 113) by kernel_rfl) (by decide) ov_112), (fun _ h => by cases h)⟩
theorem wG0_ok : ∀ f g, wG0 f = some g → (Bodied Try.prog f ∧ Sound Try.prog f g) ∨ ExtOk Try.prog f g := fun f g h => wG0_all (f, g) (lookN_mem h)
theorem kG_10_run : tellsTrue (bcall wG0 atabT 100000 40 10 [] Heap.empty) = true := by kernel_rfl
noncomputable def wGK : List (Nat × (List AV → Heap → Option (AV × Heap))) := [(10, alone (bcall wG0 atabT 100000 40 10))]
theorem wGK_all : ∀ p ∈ wGK, (Bodied Try.prog p.1 ∧ Sound Try.prog p.1 p.2) ∨ ExtOk Try.prog p.1 p.2 :=
  List.forall_mem_cons.2 ⟨.inl ⟨cFunc_bodied WF10_is, alone_sound (law_sound (G := wG0) (T := atabT) wG0_ok (fun _ _ h => atab_is h) 100000 40 (f := 10) rfl)⟩, (fun _ h => by cases h)⟩
noncomputable def wG : Sums := fun f => match lookN wGK f with
  | some g => some g
  | none => wG0 f
theorem wG_ok : ∀ f g, wG f = some g → (Bodied Try.prog f ∧ Sound Try.prog f g) ∨ ExtOk Try.prog f g := by
  intro f g h
  unfold wG at h
  split at h
  · rename_i g0 e
    obtain rfl := Option.some.inj h
    exact wGK_all (f, g0) (lookN_mem e)
  · exact wG0_ok f g h
noncomputable def atab : Tab := (wG, atabT)
theorem AF3 : atab.1 3 = none ∧ atab.2 3 = some WF3 ∧ WF3.code.okc = true := sp_ rfl (by kernel_rfl) WF3_ok
theorem AF8 : atab.1 8 = none ∧ atab.2 8 = some WF8 ∧ WF8.code.okc = true := sp_ rfl (by kernel_rfl) WF8_ok
theorem AF9 : atab.1 9 = none ∧ atab.2 9 = some WF9 ∧ WF9.code.okc = true := sp_ rfl (by kernel_rfl) WF9_ok
theorem AF30 : atab.1 30 = none ∧ atab.2 30 = some WF30 ∧ WF30.code.okc = true := sp_ rfl (by kernel_rfl) WF30_ok
theorem AF66 : atab.1 66 = none ∧ atab.2 66 = some WF66 ∧ WF66.code.okc = true := sp_ rfl (by kernel_rfl) WF66_ok
def wBL : List (Nat × Bt) := [(31, .clip 23), (47, .clip 2), (48, .clone 2 16), (96, .clip 2), (97, .clone 2 32), (98, .clip 4), (104, .del 2), (110, .ins 2 32)]
def wB : FuncId → Option Bt := lookN wBL
theorem wB_all (d : Nat) : ∀ p ∈ wBL, BOk (wcalls atab (d + 1)) p.1 p.2 :=
  List.forall_mem_cons.2 ⟨clip_bok rfl (show atab.2 31 = some (clipF 23) by kernel_rfl), List.forall_mem_cons.2 ⟨clip_bok rfl (show atab.2 47 = some (clipF 2) by kernel_rfl), List.forall_mem_cons.2 ⟨clone_bok (zero := [(.int .i64 0), (.int .i64 0)]) rfl (show atab.2 48 = some (cloneF 2 16 [(.int .i64 0), (.int .i64 0)]) by kernel_rfl), List.forall_mem_cons.2 ⟨clip_bok rfl (show atab.2 96 = some (clipF 2) by kernel_rfl), List.forall_mem_cons.2 ⟨clone_bok (zero := [(.str []), (.str [])]) rfl (show atab.2 97 = some (cloneF 2 32 [(.str []), (.str [])]) by kernel_rfl), List.forall_mem_cons.2 ⟨clip_bok rfl (show atab.2 98 = some (clipF 4) by kernel_rfl), List.forall_mem_cons.2 ⟨del_bok (bytes := 32) (zero := [(.str []), (.str [])]) rfl rfl (show atab.2 104 = some (delF 2 32 [(.str []), (.str [])]) by kernel_rfl), List.forall_mem_cons.2 ⟨ins_bok rfl, (fun _ h => by cases h)⟩⟩⟩⟩⟩⟩⟩⟩
theorem wB_ok (d : Nat) : ∀ f b, wB f = some b → BOk (wcalls atab (d + 1)) f b := fun f b h => wB_all d (f, b) (lookN_mem h)
end Go.Proofs.Ytlcjmchhnbdepaa
