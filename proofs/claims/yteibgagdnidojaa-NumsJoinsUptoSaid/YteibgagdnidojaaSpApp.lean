/- Appending, when only the outcome counts, not the block. -/
import Derived.Test.YteibgagdnidojaaSpText
set_option linter.all false
namespace Go.Proofs.Yteibgagdnidojaa

/-- A slice over a whole block of the frame's own, at or above m. -/
structure Own (H : Heap) (m n : Nat) (cs : List AV) (q : Nat) (ex : Bool) : Prop where
  get : ∃ sl, H.get q = some (.cells cs false sl)
  ge : m ≤ q
  lt : q < H.next
  len : cs.length = n

theorem Own.at {H : Heap} {m n : Nat} {cs : List AV} {q : Nat} {ex : Bool} (h : Own H m n cs q ex) : AtL H 1 n cs (.slice (some (q, 0)) 1 n n ex) := by
  obtain ⟨sl, hg⟩ := h.get
  exact .own q n ex false sl hg

theorem vE_list (sz len : Nat) (cs : List AV) (ex : Bool) (H : Heap) : vElems (.list sz len cs ex) H = some (len, cs) := rfl
theorem vE_str (s : List UInt8) (H : Heap) : vElems (.str s) H = some (s.length, s.map byteC) := rfl
theorem vE_nil (sz len cap : Nat) (ex : Bool) (H : Heap) : vElems (.slice none sz len cap ex) H = some (len, []) := rfl
theorem vE_slice (q : Nat × Nat) (sz len cap : Nat) (ex : Bool) (H : Heap) : vElems (.slice (some q) sz len cap ex) H = if len = 0 then some (0, []) else (H.read q.1 q.2 (len * sz)).map fun cs => (len, cs) := rfl
theorem vS_list (sz len n : Nat) (cs : List AV) (ex : Bool) : vElemSize (.list sz len cs ex) n = (sz == n) := rfl
theorem vS_str (s : List UInt8) (n : Nat) : vElemSize (.str s) n = (n == 1) := rfl
theorem vS_nil (sz len cap n : Nat) (ex : Bool) : vElemSize (.slice none sz len cap ex) n = (len == 0) := rfl
theorem vS_slice (q : Nat × Nat) (sz len cap n : Nat) (ex : Bool) : vElemSize (.slice (some q) sz len cap ex) n = (sz == n) := rfl

theorem vElems_at {H : Heap} {n : Nat} {cs : List AV} {v : AV} (h : AtL H 1 n cs v) (hl : cs.length = n) : vElems v H = some (n, cs) := by
  cases h with
  | list ex => rfl
  | own b cap ex ro sl hb =>
    by_cases h0 : n = 0
    · subst h0
      obtain rfl := List.eq_nil_of_length_eq_zero hl
      simp [vElems, aElems]
    · simp [vElems, aElems, h0, Heap.read, hb, hl]
      subst hl
      simp
  | nil h1 h2 => subst h1 h2; rfl

theorem vElemSize_at {H : Heap} {n : Nat} {cs : List AV} {v : AV} (h : AtL H 1 n cs v) : vElemSize v 1 = true := by
  cases h <;> simp [vElemSize, aElemSize]

/-- Below m nothing has changed. -/
structure Below (m : Nat) (H H' : Heap) : Prop where
  get : ∀ b, b < m → H'.get b = H.get b
  next : H.next ≤ H'.next
  ok : H'.Ok

theorem Below.trans {m : Nat} {A B C : Heap} (h : Below m A B) (g : Below m B C) : Below m A C :=
  ⟨fun b hb => by rw [g.get b hb, h.get b hb], Nat.le_trans h.next g.next, g.ok⟩

theorem Below.up {H H' : Heap} {n : Nat} {cs : List AV} {v : AV} (hH : H.Ok) (s : Below H.next H H') (h : AtL H 1 n cs v) : AtL H' 1 n cs v :=
  h.up fun b c ro sl hb => by rw [s.get b (lt_of_get hH hb)]; exact hb

theorem below_push {H : Heap} {m : Nat} (hH : H.Ok) (hm : m ≤ H.next) (x : Blk) : Below m H (H.push x) :=
  ⟨fun b hb => by rw [get_push, if_neg (by omega)], by rw [next_push]; omega, ok_push hH x⟩

theorem app_at (fr : Fr) {H : Heap} (hH : H.Ok) {m n : Nat} {cs : List AV} {q : Nat} {ex : Bool} (h : Own H m n cs q ex) (hx : ex = true → n = 0) (hfr : fr.mark ≤ m) (bytes k : Nat) (new : List AV) (hk : new.length = k) (h1 : (n + k) * bytes ≤ 70368744177664) (h2 : n + k ≤ 70368744177664) :
    ∃ q' ex' H', vAppend fr 1 bytes (.slice (some (q, 0)) 1 n n ex) k new H = some (.slice (some (q', 0)) 1 (n + k) (n + k) ex', H') ∧ Own H' m (n + k) (cs ++ new) q' ex' ∧ (ex' = true → n + k = 0) ∧ Below m H H' ∧ ∀ b, b ≠ q → b < H.next → H'.get b = H.get b := by
  obtain ⟨⟨sl, hg⟩, hge, hlt, hl⟩ := h
  by_cases h0 : k = 0
  · subst h0
    obtain rfl := List.eq_nil_of_length_eq_zero hk
    refine ⟨q, ex, H, ?_, ⟨⟨sl, by simpa using hg⟩, hge, hlt, by simpa using hl⟩, hx, ⟨fun _ _ => rfl, Nat.le_refl _, hH⟩, fun _ _ _ => rfl⟩
    have : fr.mark ≤ q := by omega
    simp [vAppend, appOk, aAppend, okStore, this]
  · have c1 : ¬ (n + k ≤ n) := by omega
    by_cases he : ex = true
    · have := hx he
      subst this he
      obtain rfl := List.eq_nil_of_length_eq_zero hl
      refine ⟨H.next, false, H.push (.cells new false true), ?_, ⟨⟨true, by simp [get_push]⟩, by omega, by simp [next_push], by simpa using hk⟩, by simp, below_push hH (by omega) _, fun b _ hb => by rw [get_push, if_neg (by omega)]⟩
      simp only [Nat.zero_add] at h1 h2 ⊢
      simp [vAppend, appOk, aAppend, h0, h1, h2]
    · have he : ex = false := by simpa using he
      subst he
      refine ⟨H.next, false, (H.put q none).push (.cells (cs ++ new) false true), ?_, ⟨⟨true, by simp [get_push, next_put]⟩, by omega, by simp [next_push, next_put], by simp [hl, hk]⟩, by simp, ?_, fun b hb hb' => by rw [get_push, next_put, if_neg (by omega), get_put, if_neg hb]⟩
      · simp [vAppend, appOk, aAppend, c1, h1, h2, hg, Heap.read, hl]
        subst hl
        simp
      · refine ⟨fun b hb => ?_, by simp [next_push, next_put], ok_push (ok_put hH hlt _) _⟩
        rw [get_push, next_put, if_neg (by omega), get_put, if_neg (by omega)]

theorem ok_room {H : Heap} (h : H.Ok) (k : Nat) : (H.room k).Ok := fun b hb => h b (by simp only [next_room] at hb; omega)

theorem Below.mono {m m' : Nat} {A B : Heap} (h : Below m A B) (hm : m' ≤ m) : Below m' A B := ⟨fun b hb => h.get b (by omega), h.next, h.ok⟩
theorem below_refl {m : Nat} {A : Heap} (h : A.Ok) : Below m A A := ⟨fun _ _ => rfl, Nat.le_refl _, h⟩

theorem Own.up {A B : Heap} {m m' n : Nat} {cs : List AV} {q : Nat} {ex : Bool} (h : Own A m n cs q ex) (g : Below m' A B) (hq : q < m') : Own B m n cs q ex := by
  obtain ⟨⟨sl, hg⟩, hge, hlt, hl⟩ := h
  exact ⟨⟨sl, by rw [g.get q hq]; exact hg⟩, hge, by have := g.next; omega, hl⟩

theorem vElems_part {H : Heap} {m n : Nat} {cs : List AV} {q : Nat} {ex : Bool} (h : Own H m n cs q ex) (o k cap : Nat) (ex' : Bool) (hk : o + k ≤ n) : vElems (.slice (some (q, o)) 1 k cap ex') H = some (k, (cs.drop o).take k) := by
  obtain ⟨⟨sl, hg⟩, hge, hlt, hl⟩ := h
  rw [vE_slice]
  by_cases h0 : k = 0
  · subst h0; simp
  · simp [h0, Heap.read, hg, hl, hk]

theorem putOf_ok {l : List Int} (h : ∀ x ∈ l, numsOk x = true) : ∀ s, runL putStep s l = .inl (s ++ l.flatMap fun x => encN x.toNat) := by
  induction l with
  | nil => intro s; simp [runL]
  | cons x l ih =>
    intro s
    have hx := h x (by simp)
    simp only [runL, putStep, hx, if_true]
    rw [ih fun y hy => h y (by simp [hy])]
    simp

theorem putOf_all {l : List Int} (h : ∀ x ∈ l, numsOk x = true) (s : List UInt8) : putOf s l = s ++ l.flatMap fun x => encN x.toNat := by
  simp only [putOf, putOf_ok h]

theorem putOf_bad {l : List Int} {x : Int} (hx : x ∈ l) (h : numsOk x = false) : ∀ s, putOf s l = [] := by
  intro s
  simp only [putOf]
  induction l generalizing s with
  | nil => simp at hx
  | cons y l ih =>
    simp only [runL, putStep]
    by_cases c : numsOk y = true
    · simp only [c, if_true]
      refine ih ?_ _
      rcases List.mem_cons.1 hx with e | e
      · subst e; rw [h] at c; cases c
      · exact e
    · simp [c]

theorem txt_all : ∀ (l : List (List UInt8)) (p : List UInt8 × Bool), (l.foldl txtStep p).1 = p.1 ++ l.flatMap fun w => encN w.length ++ w
  | [], p => by simp
  | w :: l, p => by rw [List.foldl_cons, txt_all l]; simp [txtStep]

theorem sumLen_bulk : ∀ l : List (List UInt8), sumLen l ≤ D.bulks (l.map D.str)
  | [] => by simp [sumLen]
  | s :: l => by
    have := sumLen_bulk l
    simp only [sumLen, List.map_cons, List.sum_cons, D.bulks, D.bulk] at this ⊢
    omega

theorem flat_enc : ∀ l : List (List UInt8), (∀ w ∈ l, w.length ≤ 1099511627776) → (l.flatMap fun w => encN w.length ++ w).length ≤ 9 * l.length + sumLen l
  | [], _ => by simp
  | w :: l, h => by
    have h1 := flat_enc l fun x hx => h x (by simp [hx])
    have h2 := h w (by simp)
    have h3 := encN_len w.length (by
      have : (128 : Nat) ^ 9 = 9223372036854775808 := by decide
      omega)
    simp only [sumLen, List.flatMap_cons, List.length_append, List.length_cons, List.map_cons, List.sum_cons] at h1 ⊢
    omega

theorem flat_num : ∀ l : List Int, (∀ x ∈ l, numsOk x = true) → (l.flatMap fun x => encN x.toNat).length ≤ 9 * l.length
  | [], _ => by simp
  | x :: l, h => by
    have h1 := flat_num l fun y hy => h y (by simp [hy])
    have h2 := h x (by simp)
    simp only [numsOk, decide_eq_true_eq] at h2
    have h3 := encN_len x.toNat (by
      have : (128 : Nat) ^ 9 = 9223372036854775808 := by decide
      omega)
    simp only [List.flatMap_cons, List.length_append, List.length_cons] at h1 ⊢
    omega

theorem own_new {H : Heap} {m : Nat} (hm : m ≤ H.next) (sl : Bool) : Own (H.push (.cells [] false sl)) m 0 [] H.next true :=
  ⟨⟨sl, by simp [get_push]⟩, hm, by simp [next_push], rfl⟩

end Go.Proofs.Yteibgagdnidojaa
