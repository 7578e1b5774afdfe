/- The abstract machine, twentieth part: what the arguments hold: every reading of the statement's form is one of the machine's, over memory that is only read. -/
import Derived.Test.YtachollgbplikaaAm19
set_option linter.unusedVariables false
set_option linter.unusedSimpArgs false
namespace Go.Proofs.Ytachollgbplikaa
open Go.ChangeShapes Go.WideShapes Go.ChangeAt Go.RowKit

/-- What is read, without addresses. -/
inductive D where
  | bool (b : Bool)
  | int (k : IntKind) (n : Int)
  | str (s : List UInt8)
  | list (l : List D)
  | agg (l : List D)
  | other

mutual
def toD {H : Type} : DataW H → D
  | .lit (.bool b) => .bool b
  | .lit (.int k n) => .int k n
  | .lit (.string s) => .str s
  | .nil => .list []
  | .slice es _ => .list (toDs es)
  | .agg es => .agg (toDs es)
  | _ => .other
def toDs {H : Type} : List (DataW H) → List D
  | [] => []
  | d :: r => toD d :: toDs r
end

theorem toDs_eq {H : Type} : ∀ l : List (DataW H), toDs l = l.map toD
  | [] => rfl
  | d :: r => by simp [toDs, toDs_eq r]

mutual
/-- What the machine's cells say of it. -/
def Rd (M : Heap) : D → List AV → Prop
  | .bool b, cs => cs = [.bool b]
  | .int k n, cs => cs = [.int k n]
  | .str s, cs => cs = [.str s]
  | .list l, cs => (l = [] ∧ ∃ sz, cs = [.slice none sz 0 0 true]) ∨
      ∃ b o sz cap, 0 < sz ∧ l.length ≤ cap ∧ cs = [.slice (some (b, o)) sz l.length cap true] ∧ (l ≠ [] → ∃ pieces, M.read b o (l.length * sz) = some pieces.flatten ∧ (∀ p ∈ pieces, p.length = sz) ∧ Parts M l pieces)
  | .agg l, cs => ∃ pieces, cs = pieces.flatten ∧ Parts M l pieces
  | .other, _ => False
def Parts (M : Heap) : List D → List (List AV) → Prop
  | [], [] => True
  | d :: r, p :: s => Rd M d p ∧ Parts M r s
  | _, _ => False
end

mutual
theorem Rd.mono {M M' : Heap} (h : M.Sub M') : ∀ (d : D) (cs : List AV), Rd M d cs → Rd M' d cs
  | .bool b, cs, e => by simpa [Rd] using e
  | .int k n, cs, e => by simpa [Rd] using e
  | .str s, cs, e => by simpa [Rd] using e
  | .list l, cs, e => by
    simp only [Rd] at e ⊢
    rcases e with e | ⟨b, o, sz, cap, h1, h2, h3, h4⟩
    · exact .inl e
    · refine .inr ⟨b, o, sz, cap, h1, h2, h3, fun hl => ?_⟩
      obtain ⟨pieces, g1, g2, g3⟩ := h4 hl
      exact ⟨pieces, read_sub h g1, g2, Parts.mono h _ _ g3⟩
  | .agg l, cs, e => by
    simp only [Rd] at e ⊢
    obtain ⟨pieces, g1, g3⟩ := e
    exact ⟨pieces, g1, Parts.mono h _ _ g3⟩
  | .other, cs, e => by simp [Rd] at e
theorem Parts.mono {M M' : Heap} (h : M.Sub M') : ∀ (l : List D) (ps : List (List AV)), Parts M l ps → Parts M' l ps
  | [], [], _ => by simp [Parts]
  | d :: r, p :: s, e => by
    simp only [Parts] at e ⊢
    exact ⟨Rd.mono h _ _ e.1, Parts.mono h _ _ e.2⟩
  | [], _ :: _, e => by simp [Parts] at e
  | _ :: _, [], e => by simp [Parts] at e
end

/-- Shapes of what is read. -/
inductive Sh where
  | bool
  | int (k : IntKind)
  | str
  | list (e : Sh)
  | agg (l : List Sh)

mutual
def D.is : Sh → D → Prop
  | .bool, d => ∃ b, d = .bool b
  | .int k, d => ∃ n, d = .int k n ∧ k.min ≤ n ∧ n ≤ k.max
  | .str, d => ∃ s, d = .str s
  | .list e, d => ∃ l, d = .list l ∧ ∀ x ∈ l, D.is e x
  | .agg ss, d => ∃ l, d = .agg l ∧ D.are ss l
def D.are : List Sh → List D → Prop
  | [], [] => True
  | s :: ss, d :: l => D.is s d ∧ D.are ss l
  | _, _ => False
end

def mapO {α β : Type} (f : α → Option β) : List α → Option (List β)
  | [] => some []
  | x :: l => match f x, mapO f l with
    | some a, some r => some (a :: r)
    | _, _ => none

def shOf (P : Program) : Nat → TypeId → Option Sh
  | 0, _ => none
  | k + 1, t => match P.underlying t with
    | some .bool => some .bool
    | some (.int i) => some (.int i)
    | some .string => some .str
    | some (.slice e) => if P.cellsOf e = 0 then none else (shOf P k e).map .list
    | some (.struct fs) => (mapO (shOf P k) (fs.toList.map fun f => f.type)).map .agg
    | some (.array n e) => (shOf P k e).map fun s => .agg (List.replicate n s)
    | _ => none

def shOfs (P : Program) (k : Nat) (l : List TypeId) : Option (List Sh) := mapO (shOf P k) l

def ReadOnly (M : Heap) : Prop := ∀ b x, M.get b = some x → x.own = false

structure Grow (ι : Inj) (M : Heap) (ι' : Inj) (M' : Heap) (W : World) : Prop where
  le : ι.Le ι'
  sub : M.Sub M'
  next : M.next ≤ M'.next
  rel : R ι' M' W
  ro : ReadOnly M'

theorem Heap.Sub.refl (M : Heap) : M.Sub M := fun _ _ h => h
theorem Heap.Sub.trans {A B C : Heap} (h : A.Sub B) (k : B.Sub C) : A.Sub C := fun _ _ e => k _ _ (h _ _ e)
theorem Grow.refl {ι : Inj} {M : Heap} {W : World} (r : R ι M W) (ro : ReadOnly M) : Grow ι M ι M W := ⟨.refl _, .refl _, Nat.le_refl _, r, ro⟩
theorem Grow.trans {ι ι1 ι2 : Inj} {M M1 M2 : Heap} {W : World} (h : Grow ι M ι1 M1 W) (k : Grow ι1 M1 ι2 M2 W) : Grow ι M ι2 M2 W :=
  ⟨h.le.trans k.le, h.sub.trans k.sub, Nat.le_trans h.next k.next, k.rel, k.ro⟩

/-- A block that is only read, seen anew. -/
theorem Grow.see {ι : Inj} {M : Heap} {W : World} (r : R ι M W) (ro : ReadOnly M) {c : List AV} {l : Loc} {o : Obj} (ho : W.heap[l.j]? = some o) (hb : BR ι (.cells c true true) l o) :
    Grow ι M (ι.set M.next l) (M.push (.cells c true true)) W := by
  have hnone := (r.fresh M.next (Nat.le_refl _)).2
  have hle := Inj.set_le hnone l
  refine ⟨hle, fun b x h => ?_, Nat.le_succ _, ⟨fun b x h => ?_, fun b b' x x' l1 l2 h1 h2 h3 h4 h5 h6 => ?_, fun b hb' => ?_⟩, fun b x h => ?_⟩
  · have : b ≠ M.next := fun e => by rw [e, (r.fresh _ (Nat.le_refl _)).1] at h; cases h
    simp [Heap.push, this, h]
  · simp only [Heap.push] at h
    split at h
    · rename_i e
      obtain rfl := Option.some.inj h
      subst e
      exact ⟨l, o, by simp [Inj.set], ho, hb.mono hle⟩
    · obtain ⟨l1, o1, g1, g2, g3⟩ := r.blk b x h
      exact ⟨l1, o1, hle _ _ g1, g2, g3.mono hle⟩
  · exfalso
    have one : ∀ b x, (M.push (.cells c true true)).get b = some x → x.own = false := fun b x h => by
      simp only [Heap.push] at h
      split at h
      · obtain rfl := Option.some.inj h
        rfl
      · exact ro b x h
    rcases h6 with h6 | h6
    · rw [one b x h1] at h6; cases h6
    · rw [one b' x' h2] at h6; cases h6
  · simp only [Heap.push] at hb' ⊢
    have : b ≠ M.next := by omega
    simp only [Inj.set, this, if_false]
    exact r.fresh b (by omega)
  · simp only [Heap.push] at h
    split at h
    · obtain rfl := Option.some.inj h
      rfl
    · exact ro b x h

/-- A number that stands for no block. -/
theorem Grow.skip {ι : Inj} {M : Heap} {W : World} (r : R ι M W) (ro : ReadOnly M) (l : Loc) :
    Grow ι M (ι.set M.next l) { M with next := M.next + 1 } W := by
  have hnone := (r.fresh M.next (Nat.le_refl _)).2
  have hle := Inj.set_le hnone l
  refine ⟨hle, fun b x h => h, Nat.le_succ _, ⟨fun b x h => ?_, fun b b' x x' l1 l2 h1 h2 h3 h4 h5 h6 => ?_, fun b hb' => ?_⟩, ro⟩
  · obtain ⟨l1, o1, g1, g2, g3⟩ := r.blk b x h
    exact ⟨l1, o1, hle _ _ g1, g2, g3.mono hle⟩
  · exfalso
    rcases h6 with h6 | h6
    · rw [ro b x h1] at h6; cases h6
    · rw [ro b' x' h2] at h6; cases h6
  · have : b ≠ M.next := by simp only at hb'; omega
    simp only [Inj.set, this, if_false]
    exact r.fresh b (by simp only at hb'; omega)

/-- What is opened: a row of cells, as data. -/
def Opens (W : World) (s : Sh) (cs : List Value) (d : D) : Prop :=
  ∀ ι M, R ι M W → ReadOnly M → ∃ ι' M' avs, Grow ι M ι' M' W ∧ VRL ι' avs cs ∧ (∀ a ∈ avs, a.isCell = true) ∧ Rd M' d avs ∧ D.is s d

def OpensAll (W : World) : List Sh → List (List Value) → List D → Prop
  | [], [], [] => True
  | s :: ss, c :: cs, d :: ds => Opens W s c d ∧ OpensAll W ss cs ds
  | _, _, _ => False

theorem OpensAll.open {W : World} : ∀ {ss : List Sh} {css : List (List Value)} {ds : List D}, OpensAll W ss css ds → ∀ ι M, R ι M W → ReadOnly M →
    ∃ ι' M' pieces, Grow ι M ι' M' W ∧ pieces.map List.length = css.map List.length ∧ VRL ι' pieces.flatten css.flatten ∧ (∀ p ∈ pieces, ∀ a ∈ p, a.isCell = true) ∧ Parts M' ds pieces ∧ D.are ss ds
  | [], [], [], _, ι, M, r, ro => ⟨ι, M, [], .refl r ro, rfl, by simp [VRL], by simp, by simp [Parts], by simp [D.are]⟩
  | s :: ss, c :: css, d :: ds, h, ι, M, r, ro => by
    simp only [OpensAll] at h
    obtain ⟨ι1, M1, avs, g1, v1, c1, r1, i1⟩ := h.1 ι M r ro
    obtain ⟨ι2, M2, ps, g2, l2, v2, c2, r2, i2⟩ := OpensAll.open h.2 ι1 M1 g1.rel g1.ro
    refine ⟨ι2, M2, avs :: ps, g1.trans g2, ?_, ?_, ?_, ?_, ?_⟩
    · have := v1.length
      simp [l2, this]
    · simp only [List.flatten_cons]
      exact (v1.mono g2.le).append v2
    · intro p hp
      rcases List.mem_cons.1 hp with rfl | hp
      · exact c1
      · exact c2 p hp
    · simp only [Parts]
      exact ⟨Rd.mono g2.sub _ _ r1, r2⟩
    · simp only [D.are]
      exact ⟨i1, i2⟩
  | [], [], _ :: _, h, _, _, _, _ => by simp [OpensAll] at h
  | [], _ :: _, _, h, _, _, _, _ => by simp [OpensAll] at h
  | _ :: _, [], _, h, _, _, _, _ => by simp [OpensAll] at h
  | _ :: _, _ :: _, [], h, _, _, _, _ => by simp [OpensAll] at h

theorem D.are_replicate {s : Sh} : ∀ {n : Nat} {l : List D}, D.are (List.replicate n s) l → l.length = n ∧ ∀ x ∈ l, D.is s x
  | 0, [], _ => by simp
  | 0, _ :: _, h => by simp [D.are] at h
  | n + 1, [], h => by simp [List.replicate_succ, D.are] at h
  | n + 1, d :: l, h => by
    simp only [List.replicate_succ, D.are] at h
    obtain ⟨h1, h2⟩ := D.are_replicate h.2
    refine ⟨by simp [h1], fun x hx => ?_⟩
    rcases List.mem_cons.1 hx with rfl | hx
    · exact h.1
    · exact h2 x hx

end Go.Proofs.Ytachollgbplikaa
