/- The abstract machine, second part: what an abstract heap says of a world, and what a step may turn. -/
import Derived.Test.YtachollgbplikaaAm1
import Derived.WalkKit
set_option linter.unusedVariables false
set_option linter.unusedSimpArgs false
namespace Go.Proofs.Ytachollgbplikaa

/-- Where a block lies: the model's block, its first cell, how many cells are its own. -/
structure Loc where
  j : Nat
  d : Nat
  N : Nat

abbrev Inj := Nat → Option Loc

mutual
def VR (ι : Inj) : AV → Value → Prop
  | .undef, _ => True
  | .bool b, v => v = .bool b
  | .int k n, v => v = .int k n
  | .str s, v => ∃ b : ByteArray, v = .string b ∧ b.data.toList = s
  | .ptr none, v => v = .pointer none
  | .ptr (some (b, o)), v => ∃ l, ι b = some l ∧ v = .pointer (some ⟨l.j, l.d + o, none⟩)
  | .slice none _ len cap ex, v => v = .slice none 0 0 ∧ len = 0 ∧ cap = 0 ∧ ex = true
  | .slice (some (b, o)) sz len cap ex, v => ∃ l a cap', ι b = some l ∧ v = .slice (some a) len cap' ∧ (cap' = 0 ∨ a.block = l.j) ∧ (cap' = 0 ∨ a.spot = none) ∧
      (cap' = 0 ∨ a.off = l.d + o) ∧ len ≤ cap ∧ cap ≤ cap' ∧ (ex = true → cap' = cap) ∧ o + cap' * sz ≤ l.N ∧ 0 < sz
  | .map none, v => v = .map none
  | .map (some r), v => ∃ l, ι r = some l ∧ v = .map (some l.j)
  | .func f caps, v => ∃ cs : Array Value, v = .func (.func f) #[] cs ∧ VRL ι caps cs.toList
  | .nilFunc, v => v = .nilFunc
  | .agg cs, v => ∃ vs : Array Value, v = .agg vs ∧ VRL ι cs vs.toList
  | .tuple cs, v => ∃ vs : Array Value, v = .tuple vs ∧ VRL ι cs vs.toList
  | .list .., _ => False
  | .elem .., _ => False
  | .acc .., _ => False
def VRL (ι : Inj) : List AV → List Value → Prop
  | [], [] => True
  | a :: l, v :: r => VR ι a v ∧ VRL ι l r
  | _, _ => False
end

theorem VR.undef (ι : Inj) (v : Value) : VR ι .undef v := by simp [VR]

def Inj.Le (ι ι' : Inj) : Prop := ∀ b l, ι b = some l → ι' b = some l

theorem Inj.Le.refl (ι : Inj) : ι.Le ι := fun _ _ h => h
theorem Inj.Le.trans {a b c : Inj} (h : a.Le b) (k : b.Le c) : a.Le c := fun _ _ e => k _ _ (h _ _ e)

mutual
theorem VR.mono {ι ι' : Inj} (h : ι.Le ι') : ∀ (a : AV) (v : Value), VR ι a v → VR ι' a v
  | .undef, _, _ => VR.undef _ _
  | .bool _, _, e => by simpa [VR] using e
  | .int _ _, _, e => by simpa [VR] using e
  | .str _, _, e => by simpa [VR] using e
  | .ptr none, _, e => by simpa [VR] using e
  | .ptr (some (b, o)), _, e => by
    simp only [VR] at e ⊢
    obtain ⟨l, h1, h2⟩ := e
    exact ⟨l, h _ _ h1, h2⟩
  | .slice none _ _ _ _, _, e => by simpa [VR] using e
  | .slice (some (b, o)) _ _ _ _, _, e => by
    simp only [VR] at e ⊢
    obtain ⟨l, a, c, h1, r⟩ := e
    exact ⟨l, a, c, h _ _ h1, r⟩
  | .map none, _, e => by simpa [VR] using e
  | .map (some r), _, e => by
    simp only [VR] at e ⊢
    obtain ⟨l, h1, h2⟩ := e
    exact ⟨l, h _ _ h1, h2⟩
  | .func f caps, _, e => by
    simp only [VR] at e ⊢
    obtain ⟨cs, h1, h2⟩ := e
    exact ⟨cs, h1, VRL.mono h _ _ h2⟩
  | .nilFunc, _, e => by simpa [VR] using e
  | .list .., _, e => by simp [VR] at e
  | .elem .., _, e => by simp [VR] at e
  | .acc .., _, e => by simp [VR] at e
  | .agg cs, _, e => by
    simp only [VR] at e ⊢
    obtain ⟨vs, h1, h2⟩ := e
    exact ⟨vs, h1, VRL.mono h _ _ h2⟩
  | .tuple cs, _, e => by
    simp only [VR] at e ⊢
    obtain ⟨vs, h1, h2⟩ := e
    exact ⟨vs, h1, VRL.mono h _ _ h2⟩
theorem VRL.mono {ι ι' : Inj} (h : ι.Le ι') : ∀ (l : List AV) (r : List Value), VRL ι l r → VRL ι' l r
  | [], [], _ => by simp [VRL]
  | a :: l, v :: r, e => by
    simp only [VRL] at e ⊢
    exact ⟨VR.mono h _ _ e.1, VRL.mono h _ _ e.2⟩
  | [], _ :: _, e => by simp [VRL] at e
  | _ :: _, [], e => by simp [VRL] at e
end

theorem VRL.length {ι : Inj} : ∀ {l : List AV} {r : List Value}, VRL ι l r → l.length = r.length
  | [], [], _ => rfl
  | _ :: l, _ :: r, e => by
    simp only [VRL] at e
    simp [VRL.length e.2]
  | [], _ :: _, e => by simp [VRL] at e
  | _ :: _, [], e => by simp [VRL] at e

theorem VRL.get {ι : Inj} : ∀ {l : List AV} {r : List Value}, VRL ι l r → ∀ (i : Nat) (a : AV), l[i]? = some a → ∃ v, r[i]? = some v ∧ VR ι a v
  | [], _, _, i, a, h => by simp at h
  | a :: l, v :: r, e, i, x, h => by
    simp only [VRL] at e
    cases i with
    | zero =>
      simp at h
      subst h
      exact ⟨v, by simp, e.1⟩
    | succ i => simpa using VRL.get e.2 i x (by simpa using h)
  | _ :: _, [], e, _, _, _ => by simp [VRL] at e

theorem VRL.of_get {ι : Inj} : ∀ {l : List AV} {r : List Value}, l.length = r.length → (∀ (i : Nat) (a : AV) (v : Value), l[i]? = some a → r[i]? = some v → VR ι a v) → VRL ι l r
  | [], [], _, _ => by simp [VRL]
  | a :: l, v :: r, hl, h => by
    simp only [VRL]
    exact ⟨h 0 a v (by simp) (by simp), VRL.of_get (by simpa using hl) fun i x y hx hy => h (i + 1) x y (by simpa using hx) (by simpa using hy)⟩
  | [], _ :: _, hl, _ => by simp at hl
  | _ :: _, [], hl, _ => by simp at hl

theorem VRL.append {ι : Inj} : ∀ {l l' : List AV} {r r' : List Value}, VRL ι l r → VRL ι l' r' → VRL ι (l ++ l') (r ++ r')
  | [], _, [], _, _, h => by simpa using h
  | a :: l, _, v :: r, _, e, h => by
    simp only [VRL, List.cons_append] at e ⊢
    exact ⟨e.1, VRL.append e.2 h⟩
  | [], _, _ :: _, _, e, _ => by simp [VRL] at e
  | _ :: _, _, [], _, e, _ => by simp [VRL] at e

theorem VRL.drop {ι : Inj} : ∀ {l : List AV} {r : List Value} (n : Nat), VRL ι l r → VRL ι (l.drop n) (r.drop n)
  | _, _, 0, e => by simpa using e
  | [], [], _ + 1, e => by simpa using e
  | _ :: l, _ :: r, n + 1, e => by
    simp only [VRL] at e
    simpa using VRL.drop n e.2
  | [], _ :: _, _ + 1, e => by simp [VRL] at e
  | _ :: _, [], _ + 1, e => by simp [VRL] at e

theorem VRL.take {ι : Inj} : ∀ {l : List AV} {r : List Value} (n : Nat), VRL ι l r → VRL ι (l.take n) (r.take n)
  | _, _, 0, e => by simp [VRL]
  | [], [], _ + 1, e => by simp [VRL]
  | _ :: l, _ :: r, n + 1, e => by
    simp only [VRL] at e
    simp only [List.take_succ_cons, VRL]
    exact ⟨e.1, VRL.take n e.2⟩
  | [], _ :: _, _ + 1, e => by simp [VRL] at e
  | _ :: _, [], _ + 1, e => by simp [VRL] at e

/-- Of lists, place by place. -/
theorem VRL.getD {ι : Inj} {l : List AV} {r : List Value} (h : VRL ι l r) (i : Nat) (d : Value) : VR ι (l.getD i .undef) (r.getD i d) := by
  rw [List.getD_eq_getElem?_getD, List.getD_eq_getElem?_getD]
  cases hi : l[i]? with
  | none => simp [VR]
  | some a =>
    obtain ⟨v, hv, hr⟩ := h.get i a hi
    simpa [hv] using hr

theorem VRL.set {ι : Inj} : ∀ {l : List AV} {r : List Value} (n : Nat) {a : AV} {v : Value}, VRL ι l r → VR ι a v → VRL ι (l.set n a) (r.set n v)
  | [], [], _, _, _, e, _ => by simp [VRL]
  | _ :: l, _ :: r, 0, _, _, e, h => by
    simp only [VRL, List.set_cons_zero] at e ⊢
    exact ⟨h, e.2⟩
  | _ :: l, _ :: r, n + 1, _, _, e, h => by
    simp only [VRL, List.set_cons_succ] at e ⊢
    exact ⟨e.1, VRL.set n e.2 h⟩
  | [], _ :: _, _, _, _, e, _ => by simp [VRL] at e
  | _ :: _, [], _, _, _, e, _ => by simp [VRL] at e

theorem VRL.keepOnly {ι : Inj} (keep : List Nat) : ∀ {l : List AV} {r : List Value} (i : Nat), VRL ι l r → VRL ι (keepOnly keep i l) r
  | [], [], _, e => by simp [Proofs.Ytachollgbplikaa.keepOnly, VRL]
  | a :: l, _ :: r, i, e => by
    simp only [VRL, Proofs.Ytachollgbplikaa.keepOnly] at e ⊢
    refine ⟨?_, VRL.keepOnly keep (i + 1) e.2⟩
    split
    · exact e.1
    · exact VR.undef _ _
  | [], _ :: _, _, e => by simp [VRL] at e
  | _ :: _, [], _, e => by simp [VRL] at e

theorem isCell_oneCell {ι : Inj} {a : AV} {v : Value} (h : a.isCell = true) (r : VR ι a v) : v.oneCell' = true := by
  cases a with
  | undef => simp [AV.isCell] at h
  | agg _ => simp [AV.isCell] at h
  | tuple _ => simp [AV.isCell] at h
  | bool b => simp only [VR] at r; subst r; rfl
  | int k n => simp only [VR] at r; subst r; rfl
  | str s => simp only [VR] at r; obtain ⟨b, rfl, _⟩ := r; rfl
  | ptr a =>
    cases a with
    | none => simp only [VR] at r; subst r; rfl
    | some p => simp only [VR] at r; obtain ⟨l, _, rfl⟩ := r; rfl
  | slice a sz len cap ex =>
    cases a with
    | none => simp only [VR] at r; obtain ⟨rfl, _⟩ := r; rfl
    | some p => simp only [VR] at r; obtain ⟨l, a, c, _, rfl, _⟩ := r; rfl
  | map r' =>
    cases r' with
    | none => simp only [VR] at r; subst r; rfl
    | some p => simp only [VR] at r; obtain ⟨l, _, rfl⟩ := r; rfl
  | func f cs => simp only [VR] at r; obtain ⟨vs, rfl, _⟩ := r; rfl
  | nilFunc => simp only [VR] at r; subst r; rfl
  | list => simp [VR] at r
  | elem => simp [VR] at r
  | acc => simp [VR] at r

theorem cells_one {v : Value} (h : v.oneCell' = true) : v.cells = #[v] := by
  cases v <;> simp_all [Value.cells, Value.oneCell']

/-- What is stored of a value: cell by cell. -/
theorem cells?_VR {ι : Inj} {a : AV} {v : Value} {cs : List AV} (h : a.cells? = some cs) (r : VR ι a v) :
    VRL ι cs v.cells.toList ∧ ∀ x, x ∈ cs → x.isCell = true := by
  cases a with
  | undef => simp [AV.cells?] at h
  | tuple _ => simp [AV.cells?] at h
  | agg l =>
    simp only [AV.cells?] at h
    split at h
    · rename_i hall
      obtain rfl := Option.some.inj h
      simp only [VR] at r
      obtain ⟨vs, rfl, hr⟩ := r
      exact ⟨by simpa [Value.cells] using hr, fun x hx => List.all_eq_true.1 hall x hx⟩
    · cases h
  | _ =>
    all_goals
      simp only [AV.cells?, Option.some.injEq] at h
      subst h
      have ho := isCell_oneCell (by rfl) r
      rw [cells_one ho]
      exact ⟨by simp only [VRL]; exact ⟨r, trivial⟩, fun x hx => by simp at hx; subst hx; rfl⟩

def Blk.own : Blk → Bool
  | .cells _ ro _ => !ro
  | .map _ => true

def ERL (ι : Inj) : List (AV × AV) → List MapEntry → Prop
  | [], [] => True
  | a :: l, e :: r => VR ι a.1 e.key ∧ VR ι a.2 e.val ∧ ERL ι l r
  | _, _ => False

theorem ERL.mono {ι ι' : Inj} (h : ι.Le ι') : ∀ {l : List (AV × AV)} {r : List MapEntry}, ERL ι l r → ERL ι' l r
  | [], [], _ => by simp [ERL]
  | _ :: l, _ :: r, e => by
    simp only [ERL] at e ⊢
    exact ⟨e.1.mono h, e.2.1.mono h, ERL.mono h e.2.2⟩
  | [], _ :: _, e => by simp [ERL] at e
  | _ :: _, [], e => by simp [ERL] at e

def BR (ι : Inj) : Blk → Loc → Obj → Prop
  | .cells c ro slack, l, o => ∃ (cs : Array Value) (elem : TypeId) (fz : Nat × Nat), o = .cells cs elem fz ∧ l.d + l.N ≤ cs.size ∧ c.length ≤ l.N ∧ (slack = false → c.length = l.N) ∧
      (∀ i a, c[i]? = some a → ∃ v, cs[l.d + i]? = some v ∧ a.isCell = true ∧ VR ι a v) ∧ (ro = false → fz.1 = fz.2 ∨ cs.size ≤ fz.1)
  | .map es, l, o => ∃ (es' : Array MapEntry) (clock : Nat), o = .map es' clock ∧ ERL ι es es'.toList

theorem BR.mono {ι ι' : Inj} (h : ι.Le ι') {x : Blk} {l : Loc} {o : Obj} (r : BR ι x l o) : BR ι' x l o := by
  cases x with
  | cells c ro slack =>
    obtain ⟨cs, elem, fz, h1, h2, h3, h4, h5, h6⟩ := r
    exact ⟨cs, elem, fz, h1, h2, h3, h4, fun i a hi => let ⟨v, a1, a2, a3⟩ := h5 i a hi; ⟨v, a1, a2, a3.mono h⟩, h6⟩
  | map es =>
    obtain ⟨es', clock, h1, h2⟩ := r
    exact ⟨es', clock, h1, h2.mono h⟩

/-- What an abstract heap says of a world. -/
structure R (ι : Inj) (M : Heap) (w : World) : Prop where
  blk : ∀ b x, M.get b = some x → ∃ l o, ι b = some l ∧ w.heap[l.j]? = some o ∧ BR ι x l o
  apart : ∀ b b' x x' l l', M.get b = some x → M.get b' = some x' → ι b = some l → ι b' = some l' → b ≠ b' → (x.own = true ∨ x'.own = true) → l.j ≠ l'.j
  fresh : ∀ b, M.next ≤ b → M.get b = none ∧ ι b = none

/-- What a step may turn. -/
structure Tr (ι : Inj) (M : Heap) (w : World) (ι' : Inj) (M' : Heap) (w' : World) : Prop where
  rel : R ι' M' w'
  agree : ∀ b, b < M.next → ι' b = ι b
  next : M.next ≤ M'.next
  dead : ∀ b, b < M.next → M.get b = none → M'.get b = none
  ro : ∀ b x, M'.get b = some x → x.own = false → M.get b = some x
  owned : ∀ b x l, M'.get b = some x → x.own = true → ι' b = some l → l.j < w.heap.size → ∃ b0 x0 l0, M.get b0 = some x0 ∧ x0.own = true ∧ ι b0 = some l0 ∧ l0.j = l.j
  keep : ∀ j, j < w.heap.size → (∀ b x l, M.get b = some x → x.own = true → ι b = some l → l.j ≠ j) → w'.heap[j]? = w.heap[j]?
  size : w.heap.size ≤ w'.heap.size
  os : w'.os = w.os
  tape : w'.tape = w.tape
  output : w'.output = w.output

theorem Tr.le {ι ι' : Inj} {M M' : Heap} {w w' : World} (r : R ι M w) (h : Tr ι M w ι' M' w') : ι.Le ι' := fun b l e => by
  rcases Nat.lt_or_ge b M.next with hb | hb
  · rw [h.agree b hb, e]
  · rw [(r.fresh b hb).2] at e
    cases e

theorem Tr.refl {ι : Inj} {M : Heap} {w : World} (r : R ι M w) : Tr ι M w ι M w :=
  ⟨r, fun _ _ => rfl, Nat.le_refl _, fun _ _ h => h, fun _ _ h _ => h, fun b x l h1 h2 h3 _ => ⟨b, x, l, h1, h2, h3, rfl⟩, fun _ _ _ => rfl, Nat.le_refl _, rfl, rfl, rfl⟩

theorem Tr.trans {ι ι1 ι2 : Inj} {M M1 M2 : Heap} {w w1 w2 : World} (h : Tr ι M w ι1 M1 w1) (k : Tr ι1 M1 w1 ι2 M2 w2) : Tr ι M w ι2 M2 w2 where
  rel := k.rel
  agree b hb := (k.agree b (Nat.lt_of_lt_of_le hb h.next)).trans (h.agree b hb)
  next := Nat.le_trans h.next k.next
  dead b hb hd := k.dead b (Nat.lt_of_lt_of_le hb h.next) (h.dead b hb hd)
  ro b x hx ho := h.ro b x (k.ro b x hx ho) ho
  owned b x l h1 h2 h3 h4 := by
    obtain ⟨b1, x1, l1, a1, a2, a3, a4⟩ := k.owned b x l h1 h2 h3 (Nat.lt_of_lt_of_le h4 h.size)
    obtain ⟨b0, x0, l0, c1, c2, c3, c4⟩ := h.owned b1 x1 l1 a1 a2 a3 (a4 ▸ h4)
    exact ⟨b0, x0, l0, c1, c2, c3, c4.trans a4⟩
  keep j hj hn := by
    refine (k.keep j (Nat.lt_of_lt_of_le hj h.size) fun b x l h1 h2 h3 e => ?_).trans (h.keep j hj hn)
    obtain ⟨b0, x0, l0, c1, c2, c3, c4⟩ := h.owned b x l h1 h2 h3 (e ▸ hj)
    exact hn b0 x0 l0 c1 c2 c3 (c4.trans e)
  size := Nat.le_trans h.size k.size
  os := k.os.trans h.os
  tape := k.tape.trans h.tape
  output := k.output.trans h.output

/-- A draw turns nothing. -/
theorem R.drew {ι : Inj} {M : Heap} {w : World} (r : R ι M w) (n : Nat) : R ι M { w with drawn := n } := ⟨r.blk, r.apart, r.fresh⟩
theorem Tr.drew {ι : Inj} {M : Heap} {w : World} (r : R ι M w) (n : Nat) : Tr ι M w ι M { w with drawn := n } :=
  ⟨r.drew n, fun _ _ => rfl, Nat.le_refl _, fun _ _ h => h, fun _ _ h _ => h, fun b x l h1 h2 h3 _ => ⟨b, x, l, h1, h2, h3, rfl⟩, fun _ _ _ => rfl, Nat.le_refl _, rfl, rfl, rfl⟩

/-! ### Cells of a world -/

theorem cell_of {w : World} {j i : Nat} {cs : Array Value} {e : TypeId} {fz : Nat × Nat} {v : Value} (h : w.heap[j]? = some (.cells cs e fz)) (hv : cs[i]? = some v) : w.cell? ⟨j, i, none⟩ = some v := by
  simp [World.cell?, h, hv]

theorem add_none (j o n : Nat) : (⟨j, o, none⟩ : Addr).add n = ⟨j, o + n, none⟩ := by
  unfold Addr.add; split <;> simp_all

/-- Reading cells of a block. -/
theorem R.read {ι : Inj} {M : Heap} {w : World} (r : R ι M w) {b o n : Nat} {cs : List AV} (h : M.read b o n = some cs) :
    cs.length = n ∧ (∀ a, a ∈ cs → a.isCell = true) ∧ ∃ l vs, ι b = some l ∧ VRL ι cs vs ∧ (∀ i v, vs[i]? = some v → w.cell? ⟨l.j, l.d + o + i, none⟩ = some v) := by
  unfold Heap.read at h
  split at h
  case h_2 => cases h
  rename_i c ro sl hb
  split at h
  case isFalse => cases h
  rename_i hle
  obtain rfl := Option.some.inj h
  obtain ⟨l, ob, hl, ho, cs, elem, fz, rfl, h2, h3, h4, h5, h6⟩ := r.blk b _ hb
  refine ⟨by simp; omega, ?_, l, ((cs.toList.drop (l.d + o)).take n), hl, ?_, ?_⟩
  · intro a ha
    obtain ⟨i, hi⟩ := List.mem_iff_getElem?.1 (List.mem_of_mem_drop (List.mem_of_mem_take ha))
    obtain ⟨v, _, hc, _⟩ := h5 i a hi
    exact hc
  · refine VRL.of_get (by simp; omega) fun i a v ha hv => ?_
    simp only [List.getElem?_take, List.getElem?_drop] at ha hv
    split at ha
    case isFalse => cases ha
    rename_i hi
    rw [if_pos hi] at hv
    obtain ⟨v', hv', _, hr⟩ := h5 _ a ha
    rw [show l.d + o + i = l.d + (o + i) from by omega] at hv
    rw [Array.getElem?_toList] at hv
    rw [hv] at hv'
    obtain rfl := Option.some.inj hv'
    exact hr
  · intro i v hv
    simp only [List.getElem?_take, List.getElem?_drop] at hv
    split at hv
    case isFalse => cases hv
    rw [Array.getElem?_toList] at hv
    exact cell_of ho hv

end Go.Proofs.Ytachollgbplikaa
