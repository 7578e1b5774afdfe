/- The abstract machine, tenth part: regions whose order is drawn: every order comes to the same. -/
import Derived.Test.YtachollgbplikaaAm9
set_option linter.unusedVariables false
set_option linter.unusedSimpArgs false
namespace Go.Proofs.Ytachollgbplikaa

/-! ### What an operation reads of the temporaries -/

def AX.rd : AX → List Nat
  | .t n => [n]
  | .c _ => []

def AX.rds (l : List AX) : List Nat := l.flatMap AX.rd
def rdO (x : Option AX) : List Nat := x.elim [] AX.rd

def POp.rd : POp → List Nat
  | .move x | .nilCheck x | .un _ x | .cvInt _ x | .cvStr x | .fieldAddr _ x | .field _ _ _ x | .extract x _ | .len _ x | .cap x => x.rd
  | .pick c a b => c.rd ++ a.rd ++ b.rd
  | .build _ ps => ps.flatMap fun p => p.2.2.rd
  | .bin _ x y | .eqB _ x y | .eqS _ _ x y | .eqP _ x y | .eqN _ x y | .idxArr _ _ x y | .idxSlice _ x y | .index _ _ _ x y | .indexStr x y => x.rd ++ y.rd
  | .mkFunc _ l | .minmax _ l => AX.rds l
  | .sliceStr x lo hi => x.rd ++ rdO lo ++ rdO hi
  | .slice _ x lo hi mx => x.rd ++ rdO lo ++ rdO hi ++ rdO mx

def LOp.rd : LOp → List Nat
  | .load _ _ x | .bytesStr x | .mapLen x => x.rd
  | .lookup _ _ x k => x.rd ++ k.rd

def KOp.rd : KOp → List Nat
  | .alloc _ | .makeMap => []
  | .box x | .strBytes x => x.rd
  | .buildSlice _ _ _ ps => ps.flatMap fun p => p.2.rd
  | .makeSlice _ _ _ l c => l.rd ++ c.rd

def NOp.rd : NOp → List Nat
  | .store _ a v => a.rd ++ v.rd
  | .call f l => f.rd ++ AX.rds l
  | .append _ _ s x => s.rd ++ x.rd
  | .appendZ _ _ _ s x => s.rd ++ x.rd
  | .copy _ s x => s.rd ++ x.rd
  | .clear _ _ x => x.rd
  | .mapUpdate m k v => m.rd ++ k.rd ++ v.rd
  | .mapDelete m k => m.rd ++ k.rd
  | .cvBytes x => x.rd
  | .fail => []

def AOp.rd : AOp → List Nat
  | .p o => o.rd
  | .l o => o.rd
  | .k o => o.rd
  | .n o => o.rd

def AOper.rd (o : AOper) : List Nat := (match o.guard with | some (t, _) => [t] | none => []) ++ o.op.rd

def Agree (l : List Nat) (e e' : Env) : Prop := ∀ t, t ∈ l → e.getD t .undef = e'.getD t .undef

theorem AX.ev_agree {x : AX} {e e' : Env} {l : List Nat} (h : Agree l e e') (hx : ∀ t, t ∈ x.rd → t ∈ l) : x.ev e = x.ev e' := by
  cases x with
  | t n => exact h n (hx n (by simp [AX.rd]))
  | c v => rfl

theorem AX.map_agree {l : List AX} {e e' : Env} {r : List Nat} (h : Agree r e e') (hx : ∀ t, t ∈ AX.rds l → t ∈ r) : l.map (AX.ev e) = l.map (AX.ev e') := by
  refine List.map_congr_left fun x hm => AX.ev_agree h fun t ht => hx t ?_
  simp only [AX.rds, List.mem_flatMap]
  exact ⟨x, hm, ht⟩

theorem aBoundO_agree {x : Option AX} {e e' : Env} {r : List Nat} (h : Agree r e e') (hx : ∀ t, t ∈ rdO x → t ∈ r) (a b : Nat) : aBoundO e x a b = aBoundO e' x a b := by
  cases x with
  | none => rfl
  | some x => simp only [aBoundO]; rw [AX.ev_agree h (fun t ht => hx t (by simpa [rdO] using ht))]

theorem aP_agree {o : POp} {e e' : Env} (h : Agree o.rd e e') : aP o e = aP o e' := by
  have one : ∀ x : AX, (∀ t, t ∈ x.rd → t ∈ o.rd) → x.ev e = x.ev e' := fun x hx => AX.ev_agree h hx
  cases o with
  | build z ps =>
    simp only [aP]
    have : (ps.map fun p => (p.1, p.2.1, p.2.2.ev e)) = ps.map fun p => (p.1, p.2.1, p.2.2.ev e') := by
      refine List.map_congr_left fun p hp => ?_
      rw [one p.2.2 (fun t ht => by simp only [POp.rd, List.mem_flatMap]; exact ⟨p, hp, ht⟩)]
    rw [this]
  | mkFunc f l => simp only [aP]; rw [AX.map_agree h (fun t ht => by simpa [POp.rd] using ht)]
  | minmax m l => simp only [aP]; rw [AX.map_agree h (fun t ht => by simpa [POp.rd] using ht)]
  | sliceStr x lo hi =>
    simp only [aP, aSliceStr]
    rw [one x (fun t ht => by simp [POp.rd, ht])]
    simp only [aBoundO_agree h (x := lo) (fun t ht => by simp [POp.rd, ht]), aBoundO_agree h (x := hi) (fun t ht => by simp [POp.rd, ht])]
  | slice n x lo hi mx =>
    simp only [aP, aSlice]
    rw [one x (fun t ht => by simp [POp.rd, ht])]
    simp only [aBoundO_agree h (x := lo) (fun t ht => by simp [POp.rd, ht]), aBoundO_agree h (x := hi) (fun t ht => by simp [POp.rd, ht]), aBoundO_agree h (x := mx) (fun t ht => by simp [POp.rd, ht])]
  | pick c a b => simp only [aP]; rw [one c (fun t ht => by simp [POp.rd, ht]), one a (fun t ht => by simp [POp.rd, ht]), one b (fun t ht => by simp [POp.rd, ht])]
  | bin _ x y | eqB _ x y | eqS _ _ x y | eqP _ x y | eqN _ x y | idxArr _ _ x y | idxSlice _ x y | index _ _ _ x y | indexStr x y =>
    simp only [aP]; rw [one x (fun t ht => by simp [POp.rd, ht]), one y (fun t ht => by simp [POp.rd, ht])]
  | move x | nilCheck x | un _ x | cvInt _ x | cvStr x | fieldAddr _ x | field _ _ _ x | extract x _ | len _ x | cap x =>
    simp only [aP]; rw [one x (fun t ht => by simpa [POp.rd] using ht)]

theorem aL_agree {o : LOp} {e e' : Env} (h : Agree o.rd e e') (M : Heap) : aL o e M = aL o e' M := by
  have one : ∀ x : AX, (∀ t, t ∈ x.rd → t ∈ o.rd) → x.ev e = x.ev e' := fun x hx => AX.ev_agree h hx
  cases o with
  | lookup _ _ x y => simp only [aL]; rw [one x (fun t ht => by simp [LOp.rd, ht]), one y (fun t ht => by simp [LOp.rd, ht])]
  | load _ _ x | bytesStr x | mapLen x => simp only [aL]; rw [one x (fun t ht => by simpa [LOp.rd] using ht)]

theorem aK_agree {o : KOp} {e e' : Env} (h : Agree o.rd e e') : aK o e = aK o e' := by
  have one : ∀ x : AX, (∀ t, t ∈ x.rd → t ∈ o.rd) → x.ev e = x.ev e' := fun x hx => AX.ev_agree h hx
  cases o with
  | alloc _ => rfl
  | makeMap => rfl
  | buildSlice sz len z ps =>
    simp only [aK]
    have : (ps.map fun p => (p.1 * sz, sz, p.2.ev e)) = ps.map fun p => (p.1 * sz, sz, p.2.ev e') := by
      refine List.map_congr_left fun p hp => ?_
      rw [one p.2 (fun t ht => by simp only [KOp.rd, List.mem_flatMap]; exact ⟨p, hp, ht⟩)]
    rw [this]
  | makeSlice _ _ _ x y => simp only [aK]; rw [one x (fun t ht => by simp [KOp.rd, ht]), one y (fun t ht => by simp [KOp.rd, ht])]
  | box x | strBytes x => simp only [aK]; rw [one x (fun t ht => by simpa [KOp.rd] using ht)]

theorem aN_agree {C : ACalls} {o : NOp} {e e' : Env} (h : Agree o.rd e e') (M : Heap) : aN C o e M = aN C o e' M := by
  have one : ∀ x : AX, (∀ t, t ∈ x.rd → t ∈ o.rd) → x.ev e = x.ev e' := fun x hx => AX.ev_agree h hx
  cases o with
  | fail => rfl
  | call f l => simp only [aN]; rw [one f (fun t ht => by simp [NOp.rd, ht]), AX.map_agree h (fun t ht => by simp [NOp.rd, ht])]
  | mapUpdate x y z => simp only [aN]; rw [one x (fun t ht => by simp [NOp.rd, ht]), one y (fun t ht => by simp [NOp.rd, ht]), one z (fun t ht => by simp [NOp.rd, ht])]
  | clear _ _ x | cvBytes x => simp only [aN]; rw [one x (fun t ht => by simpa [NOp.rd] using ht)]
  | store _ x y | append _ _ x y | appendZ _ _ _ x y | copy _ x y | mapDelete x y =>
    simp only [aN]; rw [one x (fun t ht => by simp [NOp.rd, ht]), one y (fun t ht => by simp [NOp.rd, ht])]

/-! ### What reads sees no more than there is -/

def Heap.Sub (X Y : Heap) : Prop := ∀ b x, X.get b = some x → Y.get b = some x

theorem read_sub {X Y : Heap} (h : X.Sub Y) {b o n : Nat} {l : List AV} (hr : X.read b o n = some l) : Y.read b o n = some l := by
  unfold Heap.read at hr ⊢
  cases hb : X.get b with
  | none => simp [hb] at hr
  | some x => rw [hb] at hr; rw [h b x hb]; exact hr

theorem aL_sub {o : LOp} {e : Env} {X Y : Heap} (h : X.Sub Y) {v : AV} (hv : aL o e X = some v) : aL o e Y = some v := by
  cases o with
  | load g n x =>
    simp only [aL, aLoad] at hv ⊢
    split at hv
    case h_2 => cases hv
    rename_i b o' hx
    cases g with
    | true =>
      simp only [if_true] at hv ⊢
      obtain ⟨l, hl, rfl⟩ := Option.map_eq_some_iff.1 hv
      rw [read_sub h hl]
      rfl
    | false =>
      simp only [Bool.false_eq_true, if_false] at hv ⊢
      cases hb : X.get b with
      | none => simp [hb] at hv
      | some x => rw [hb] at hv; rw [h b x hb]; exact hv
  | bytesStr x =>
    simp only [aL, aBytesStr] at hv ⊢
    split at hv
    · exact hv
    · split at hv
      · rename_i h0
        rw [if_pos h0]
        exact hv
      rename_i h0
      rw [if_neg h0]
      obtain ⟨l, hl, rfl⟩ := Option.map_eq_some_iff.1 hv
      obtain ⟨cs, hcs, hl⟩ := Option.bind_eq_some_iff.1 hl
      rw [read_sub h hcs]
      simp [hl]
    · cases hv
  | mapLen x =>
    simp only [aL] at hv ⊢
    obtain ⟨l, hl, rfl⟩ := Option.map_eq_some_iff.1 hv
    rw [aEntries_sub h hl]
    rfl
  | lookup ok z x k =>
    simp only [aL, aLookup] at hv ⊢
    obtain ⟨l, hl, hv⟩ := Option.bind_eq_some_iff.1 hv
    rw [aEntries_sub h hl]
    exact hv
 where
  aEntries_sub {X Y : Heap} (h : X.Sub Y) {v : AV} {l : List (AV × AV)} (hl : aEntries v X = some l) : aEntries v Y = some l := by
    unfold aEntries at hl ⊢
    split at hl
    · exact hl
    · rename_i r
      cases hb : X.get r with
      | none => simp [hb] at hl
      | some x => rw [hb] at hl; rw [h r x hb]; exact hl
    · cases hl

mutual
theorem AV.eq_of_same : ∀ (a b : AV), AV.same a b = true → a = b
  | .bool a, .bool b, h => by simpa [AV.same] using h
  | .int k a, .int k' b, h => by simp [AV.same] at h; rw [h.1, h.2]
  | .str a, .str b, h => by simpa [AV.same] using h
  | .ptr a, .ptr b, h => by simpa [AV.same] using h
  | .slice a s l c e, .slice a' s' l' c' e', h => by simp [AV.same] at h; obtain ⟨⟨⟨⟨rfl, rfl⟩, rfl⟩, rfl⟩, rfl⟩ := h; rfl
  | .map a, .map b, h => by simpa [AV.same] using h
  | .func f cs, .func f' cs', h => by
    simp [AV.same] at h
    rw [h.1, AV.eq_of_sameL cs cs' h.2]
  | .nilFunc, .nilFunc, _ => rfl
  | .agg a, .agg b, h => by rw [AV.eq_of_sameL a b (by simpa [AV.same] using h)]
  | .tuple a, .tuple b, h => by rw [AV.eq_of_sameL a b (by simpa [AV.same] using h)]
  | .undef, _, h => by simp [AV.same] at h
  | .list .., _, h => by simp [AV.same] at h
  | .elem _, _, h => by simp [AV.same] at h
  | .acc .., _, h => by simp [AV.same] at h
  | .bool _, .undef, h | .bool _, .int .., h | .bool _, .str _, h | .bool _, .ptr _, h | .bool _, .slice .., h | .bool _, .map _, h | .bool _, .func .., h | .bool _, .nilFunc, h | .bool _, .agg _, h | .bool _, .tuple _, h | .bool _, .list .., h | .bool _, .elem _, h | .bool _, .acc .., h => by simp [AV.same] at h
  | .int .., .undef, h | .int .., .bool _, h | .int .., .str _, h | .int .., .ptr _, h | .int .., .slice .., h | .int .., .map _, h | .int .., .func .., h | .int .., .nilFunc, h | .int .., .agg _, h | .int .., .tuple _, h | .int .., .list .., h | .int .., .elem _, h | .int .., .acc .., h => by simp [AV.same] at h
  | .str _, .undef, h | .str _, .bool _, h | .str _, .int .., h | .str _, .ptr _, h | .str _, .slice .., h | .str _, .map _, h | .str _, .func .., h | .str _, .nilFunc, h | .str _, .agg _, h | .str _, .tuple _, h | .str _, .list .., h | .str _, .elem _, h | .str _, .acc .., h => by simp [AV.same] at h
  | .ptr _, .undef, h | .ptr _, .bool _, h | .ptr _, .int .., h | .ptr _, .str _, h | .ptr _, .slice .., h | .ptr _, .map _, h | .ptr _, .func .., h | .ptr _, .nilFunc, h | .ptr _, .agg _, h | .ptr _, .tuple _, h | .ptr _, .list .., h | .ptr _, .elem _, h | .ptr _, .acc .., h => by simp [AV.same] at h
  | .slice .., .undef, h | .slice .., .bool _, h | .slice .., .int .., h | .slice .., .str _, h | .slice .., .ptr _, h | .slice .., .map _, h | .slice .., .func .., h | .slice .., .nilFunc, h | .slice .., .agg _, h | .slice .., .tuple _, h | .slice .., .list .., h | .slice .., .elem _, h | .slice .., .acc .., h => by simp [AV.same] at h
  | .map _, .undef, h | .map _, .bool _, h | .map _, .int .., h | .map _, .str _, h | .map _, .ptr _, h | .map _, .slice .., h | .map _, .func .., h | .map _, .nilFunc, h | .map _, .agg _, h | .map _, .tuple _, h | .map _, .list .., h | .map _, .elem _, h | .map _, .acc .., h => by simp [AV.same] at h
  | .func .., .undef, h | .func .., .bool _, h | .func .., .int .., h | .func .., .str _, h | .func .., .ptr _, h | .func .., .slice .., h | .func .., .map _, h | .func .., .nilFunc, h | .func .., .agg _, h | .func .., .tuple _, h | .func .., .list .., h | .func .., .elem _, h | .func .., .acc .., h => by simp [AV.same] at h
  | .nilFunc, .undef, h | .nilFunc, .bool _, h | .nilFunc, .int .., h | .nilFunc, .str _, h | .nilFunc, .ptr _, h | .nilFunc, .slice .., h | .nilFunc, .map _, h | .nilFunc, .func .., h | .nilFunc, .agg _, h | .nilFunc, .tuple _, h | .nilFunc, .list .., h | .nilFunc, .elem _, h | .nilFunc, .acc .., h => by simp [AV.same] at h
  | .agg _, .undef, h | .agg _, .bool _, h | .agg _, .int .., h | .agg _, .str _, h | .agg _, .ptr _, h | .agg _, .slice .., h | .agg _, .map _, h | .agg _, .func .., h | .agg _, .nilFunc, h | .agg _, .tuple _, h | .agg _, .list .., h | .agg _, .elem _, h | .agg _, .acc .., h => by simp [AV.same] at h
  | .tuple _, .undef, h | .tuple _, .bool _, h | .tuple _, .int .., h | .tuple _, .str _, h | .tuple _, .ptr _, h | .tuple _, .slice .., h | .tuple _, .map _, h | .tuple _, .func .., h | .tuple _, .nilFunc, h | .tuple _, .agg _, h | .tuple _, .list .., h | .tuple _, .elem _, h | .tuple _, .acc .., h => by simp [AV.same] at h
theorem AV.eq_of_sameL : ∀ (a b : List AV), AV.sameL a b = true → a = b
  | [], [], _ => rfl
  | a :: l, b :: r, h => by
    simp [AV.sameL] at h
    rw [AV.eq_of_same a b h.1, AV.eq_of_sameL l r h.2]
  | [], _ :: _, h => by simp [AV.sameL] at h
  | _ :: _, [], h => by simp [AV.sameL] at h
end

theorem awanted_agree {g : Option (Nat × Bool)} {e e' : Env} (h : Agree (match g with | some (t, _) => [t] | none => []) e e') : awanted g e = awanted g e' := by
  cases g with
  | none => rfl
  | some p =>
    obtain ⟨t, b⟩ := p
    simp only [awanted]
    rw [h t (by simp)]

end Go.Proofs.Ytachollgbplikaa
