/- The abstract machine, eighth part: append, copy and clear as operations. -/
import Derived.Test.YtachollgbplikaaAm7
set_option linter.unusedVariables false
set_option linter.unusedSimpArgs false
namespace Go.Proofs.Ytachollgbplikaa

theorem zero_info {P : Program} {t : TypeId} {zero : List AV} {i : TypeInfo} (hz : zeroOf P t = some zero) (hi : P.info? t = some i) : ∃ z, i.zero = some z ∧ (∀ ι, VRL ι zero z.cells.toList) ∧ ∀ a, a ∈ zero → a.isCell = true := by
  unfold zeroOf at hz
  split at hz
  case h_2 => cases hz
  rename_i z hz2
  obtain ⟨it, hit, hz3⟩ := Option.bind_eq_some_iff.1 hz2
  rw [hi] at hit
  obtain rfl := Option.some.inj hit
  exact ⟨z, hz3, fun ι => (ofScalars_VR ι hz).1, (ofScalars_VR (fun _ => none) hz).2⟩

theorem NOk.append {P : Program} {C : ACalls} {o : Oper} {t u elem : TypeId} {i : TypeInfo} {zero : List AV} {x y : Operand} {ax ay : AX} (ho : o.op = .call { callee := .builtin .append, args := #[x, y], argTypes := #[t, u] }) (ht : P.underlying t = some (.slice elem)) (hu : P.underlying u = some .string ∨ ∃ e', P.underlying u = some (.slice e'))
    (hi : P.info? elem = some i) (hsz : 0 < i.size) (hz : zeroOf P elem = some zero) (hzl : zero.length = i.size) (hx : cX x = some ax) (hy : cX y = some ay) : NOk P C o (.append i.size i.bytes ax ay) := by
  intro ι M e a w v M' next Q r he h hnext
  have h1 := cX_VR hx he
  have h2 := cX_VR hy he
  simp only [aN] at h
  split at h
  case isFalse => cases h
  rename_i hes
  obtain ⟨⟨n, new⟩, hel, h⟩ := Option.bind_eq_some_iff.1 h
  obtain ⟨z, hz1, hz2, hz3⟩ := zero_info hz hi
  have hzs : z.cells.size = i.size := by have := (hz2 ι).length; simp at this; omega
  obtain ⟨g1, news, g2, g3, g4, g5⟩ := elems_run (P := P) r h2 hes hel
  obtain ⟨ι', v', w', q1, q2, q3⟩ := append_sound (P := P) (e := elem) r h1 g3 g4 g5 hsz hzs h (run := fun w => (Builtin.append_ #[t, u] o.type #[a.eval x, a.eval y]).run P w)
    (fun ad sLen sCap w' hn hsv hle hst => by
      simp only [hsv]
      exact run_append_room (P := P) w t u o.type elem i ht hu hi ad sLen sCap n (a.eval y) news w' g1 (g2 w rfl) hle hst)
    (fun base sLen sCap olds hsv hold hn hg h63 hb hfit => by
      simp only [hsv]
      exact run_append_more (P := P) w t u o.type elem i z ht hu hi hz1 base sLen sCap n (a.eval y) olds news hold g1 g2 hg h63 hfit)
    (fun base sLen sCap hn hsv hle => by
      subst hn
      simp only [hsv]
      have hnew : news = #[] := by
        have := g3.length
        simp at g5 this
        simp [g5] at this
        exact Array.eq_empty_of_size_eq_zero this.symm
      exact run_append_nothing (P := P) w t u o.type elem i ht hu hi base sLen sCap (a.eval y) g1 (by rw [← hnew]; exact g2 w rfl) hle)
  refine NOk.of_run (w' := w') (v := v') ?_ (hnext ι' v' w' q3 q2)
  simp only [execOp, ho]
  simp [resolve, invoke, builtin, q1]

theorem NOk.appendZ {P : Program} {C : ACalls} {o : Oper} {t u elem : TypeId} {i : TypeInfo} {zero : List AV} {x y : Operand} {ax ay : AX} (ho : o.op = .call { callee := .builtin .append, args := #[x, y], argTypes := #[t, u] }) (ht : P.underlying t = some (.slice elem)) (hu : ∃ k, P.underlying u = some (.int k))
    (hi : P.info? elem = some i) (hsz : 0 < i.size) (hz : zeroOf P elem = some zero) (hzl : zero.length = i.size) (hx : cX x = some ax) (hy : cX y = some ay) : NOk P C o (.appendZ i.size i.bytes zero ax ay) := by
  intro ι M e a w v M' next Q r he h hnext
  have h1 := cX_VR hx he
  have h2 := cX_VR hy he
  simp only [aN] at h
  split at h
  case h_2 => cases h
  rename_i kk n hc
  rw [hc] at h2
  simp only [VR] at h2
  split at h
  case isFalse => cases h
  rename_i hn
  obtain ⟨m, rfl⟩ := Int.eq_ofNat_of_zero_le (Int.le_of_lt hn.1)
  simp only [Int.toNat_natCast] at h hn
  obtain ⟨z, hz1, hz2, hz3⟩ := zero_info hz hi
  have hzs : z.cells.size = i.size := by have := (hz2 ι).length; simp at this; omega
  have hb : m * i.bytes ≤ 281474976710656 := by rw [Nat.mul_comm]; exact hn.2.2
  obtain ⟨ι', v', w', q1, q2, q3⟩ := append_sound (P := P) (e := elem) (z := z) r h1 (reps_VR (hz2 ι) m) (fun c hc => hz3 c (reps_mem hc)) (by rw [reps_length, hzl]) hsz hzs h (run := fun w => (Builtin.append_ #[t, u] o.type #[a.eval x, a.eval y]).run P w)
    (fun ad sLen sCap w' hn0 hsv hle hst => by
      simp only [hsv, h2]
      exact run_append_room_zeros (P := P) w t u o.type elem i z ht hu hi hz1 ad sLen sCap m kk w' hsz (by omega) hb hn0 hle hst)
    (fun base sLen sCap olds hsv hold hn0 hg h63 hb' hfit => by
      simp only [hsv, h2]
      exact run_append_more_zeros (P := P) w t u o.type elem i z ht hu hi hz1 base sLen sCap m kk olds hold hsz hzs hn0 hg h63 hb' hfit)
    (fun base sLen sCap hn0 hsv hle => by omega)
  refine NOk.of_run (w' := w') (v := v') ?_ (hnext ι' v' w' q3 q2)
  simp only [execOp, ho]
  simp [resolve, invoke, builtin, q1]

/-- The first of the elements. -/
theorem elems_take {P : Program} {ι : Inj} {M : Heap} {w : World} (r : R ι M w) {x : AV} {v : Value} (hx : VR ι x v) {sz n : Nat} {new : List AV} (hs : aElemSize x sz = true) (h : aElems x M = some (n, new)) (m : Nat) (hm : m ≤ n) :
    ∃ news : Array Value, (Builtin.firstCells sz m v).run P w = .ok news w ∧ VRL ι (new.take (m * sz)) news.toList := by
  unfold aElems at h
  split at h
  · rename_i sz' len cap ex
    simp only [Option.some.injEq, Prod.mk.injEq] at h
    obtain ⟨rfl, rfl⟩ := h
    simp only [VR] at hx
    obtain ⟨rfl, rfl, _⟩ := hx
    exact ⟨#[], by simp [Builtin.firstCells], by simp [VRL]⟩
  · rename_i b o sz' len cap ex
    split at h
    · rename_i h0
      subst h0
      simp only [Option.some.injEq, Prod.mk.injEq] at h
      obtain ⟨rfl, rfl⟩ := h
      simp only [VR] at hx
      obtain ⟨L, ad, cap', e1, rfl, e3, e4, e5, e6, e7, e8, e9, e10⟩ := hx
      obtain rfl : m = 0 := by omega
      exact ⟨#[], by simp [Builtin.firstCells, loadCells, loadCellsFrom], by simp [VRL]⟩
    rename_i hlen0
    obtain ⟨cs, hcs, h⟩ := Option.map_eq_some_iff.1 h
    simp only [Prod.mk.injEq] at h
    obtain ⟨rfl, rfl⟩ := h
    simp only [aElemSize, beq_iff_eq] at hs
    subst hs
    simp only [VR] at hx
    obtain ⟨L, ad, cap', e1, rfl, e3, e4, e5, e6, e7, e8, e9, e10⟩ := hx
    obtain ⟨hlen, hc, l, vs, hl, hr, hcell⟩ := r.read hcs
    rw [e1] at hl
    obtain rfl := Option.some.inj hl
    have hvl : vs.length = len * sz' := by rw [← hr.length, hlen]
    have hmul : m * sz' ≤ len * sz' := Nat.mul_le_mul_right _ hm
    refine ⟨(vs.take (m * sz')).toArray, ?_, by simpa using hr.take (m * sz')⟩
    rcases Nat.eq_zero_or_pos cap' with h0 | hpos
    · obtain rfl : len = 0 := by omega
      obtain rfl : m = 0 := by omega
      simp [Builtin.firstCells, loadCells, loadCellsFrom]
    · replace e3 := e3.resolve_left (by omega)
      replace e4 := e4.resolve_left (by omega)
      have h0 := e5.resolve_left (by omega)
      have had : ad = ⟨L.j, L.d + o, none⟩ := by
        obtain ⟨q1, q2, q3⟩ := ad
        simp only at e3 e4 h0
        subst e3 e4 h0
        rfl
      rw [had]
      refine run_firstCells_some w sz' m _ len cap' (vs.take (m * sz')) (by simp; omega) fun j v hv => ?_
      rw [add_none]
      simp only [List.getElem?_take] at hv
      split at hv
      case isFalse => cases hv
      exact hcell j v hv
  · rename_i s
    simp only [Option.some.injEq, Prod.mk.injEq] at h
    obtain ⟨rfl, rfl⟩ := h
    simp only [aElemSize, beq_iff_eq] at hs
    subst hs
    simp only [VR] at hx
    obtain ⟨b, rfl, rfl⟩ := hx
    have hbl : b.data.toList.length = b.size := by simp
    refine ⟨((b.extract 0 m).data.map fun c => Value.int .u8 c.toNat), by simp [Builtin.firstCells], ?_⟩
    have e : (b.extract 0 m).data.toList = b.data.toList.take m := by
      obtain ⟨⟨bl⟩⟩ := b
      rw [ByteArray.extract_mk]
      simp
    rw [Array.toList_map, e, Nat.mul_one, ← List.map_take]
    refine VRL.of_get (by simp) fun i x y hx hy => ?_
    simp only [List.getElem?_map, Option.map_eq_some_iff] at hx hy
    obtain ⟨u, hu, rfl⟩ := hx
    obtain ⟨u', hu', rfl⟩ := hy
    rw [hu] at hu'
    obtain rfl := Option.some.inj hu'
    simp [VR]
  · cases h

theorem NOk.copy {P : Program} {C : ACalls} {o : Oper} {t u elem : TypeId} {sz : Nat} {x y : Operand} {ax ay : AX} (ho : o.op = .call { callee := .builtin .copy, args := #[x, y], argTypes := #[t, u] }) (ht : P.underlying t = some (.slice elem))
    (hsz : szOf P elem = some sz) (hx : cX x = some ax) (hy : cX y = some ay) : NOk P C o (.copy sz ax ay) := by
  intro ι M e a w v M' next Q r he h hnext
  have h1 := cX_VR hx he
  have h2 := cX_VR hy he
  simp only [aN] at h
  unfold aCopy at h
  split at h
  case h_2 => cases h
  rename_i p sz' len cap ex hc
  rw [hc] at h1
  split at h
  case isFalse => cases h
  rename_i hcond
  obtain ⟨⟨n, new⟩, hel, h⟩ := Option.bind_eq_some_iff.1 h
  simp only at h
  obtain ⟨g1, _, _, _, g4, g5⟩ := elems_run (P := P) r h2 hcond.2 hel
  obtain ⟨news, k1, k2⟩ := elems_take (P := P) r h2 hcond.2 hel (min n len) (Nat.min_le_left _ _)
  cases p with
  | none =>
    simp only [Option.some.injEq, Prod.mk.injEq] at h
    obtain ⟨rfl, rfl⟩ := h
    simp only [VR] at h1
    obtain ⟨h1, rfl, _⟩ := h1
    refine NOk.of_run (w' := w) (v := .int .i64 (min n 0 : Nat)) ?_ (hnext ι _ w (Tr.refl r) (by simp [VR]))
    simp only [execOp, ho]
    simp [resolve, invoke, builtin, Builtin.copy_, h1, run_underlying ht, run_sz hsz, g1]
    have := k1
    simp at this
    simp [this, goInt]
  | some q =>
    obtain ⟨b, off⟩ := q
    obtain rfl : sz' = sz := by simpa using hcond.1
    simp only [VR] at h1
    obtain ⟨L, ad, cap', e1, h1, e3, e4, e5, e6, e7, e8, e9, e10⟩ := h1
    simp only at h
    split at h
    · rename_i hn0
      simp only [Option.some.injEq, Prod.mk.injEq] at h
      obtain ⟨rfl, rfl⟩ := h
      rw [hn0] at k1 k2
      have hne : news = #[] := by
        have := k2.length
        simp at this
        exact Array.eq_empty_of_size_eq_zero this.symm
      subst hne
      refine NOk.of_run (w' := w) (v := .int .i64 (min n len : Nat)) ?_ (hnext ι _ w (Tr.refl r) (by simp [VR]))
      simp only [execOp, ho]
      simp [resolve, invoke, builtin, Builtin.copy_, h1, run_underlying ht, run_sz hsz, g1, hn0, k1, storeCells, goInt]
    · rename_i hn0
      obtain ⟨M1, hM, h⟩ := Option.map_eq_some_iff.1 h
      simp only [Prod.mk.injEq] at h
      obtain ⟨rfl, rfl⟩ := h
      obtain ⟨l, w', hl, hrun, htr⟩ := write_run (P := P) r hM k2 (fun c hc => g4 c (List.mem_of_mem_take hc))
      rw [e1] at hl
      obtain rfl := Option.some.inj hl
      replace e3 := e3.resolve_left (by omega)
      replace e4 := e4.resolve_left (by omega)
      have h0 := e5.resolve_left (by omega)
      have had : ad = ⟨L.j, L.d + off, none⟩ := by
        obtain ⟨q1, q2, q3⟩ := ad
        simp only at e3 e4 h0
        subst e3 e4 h0
        rfl
      subst had
      refine NOk.of_run (w' := w') (v := .int .i64 (min n len : Nat)) ?_ (hnext ι _ w' htr (by simp [VR]))
      simp only [execOp, ho]
      simp [resolve, invoke, builtin, Builtin.copy_, h1, run_underlying ht, run_sz hsz, g1, k1, hrun, goInt]

theorem NOk.clear {P : Program} {C : ACalls} {o : Oper} {t elem : TypeId} {sz : Nat} {zero : List AV} {x : Operand} {ax : AX} (ho : o.op = .call { callee := .builtin .clear, args := #[x], argTypes := #[t] }) (ht : P.underlying t = some (.slice elem))
    (hsz : szOf P elem = some sz) (hz : zeroOf P elem = some zero) (hzl : zero.length = sz) (hx : cX x = some ax) : NOk P C o (.clear sz zero ax) := by
  intro ι M e a w v M' next Q r he h hnext
  have h1 := cX_VR hx he
  simp only [aN] at h
  unfold aClear at h
  split at h
  case h_3 => cases h
  · rename_i hc
    simp only [Option.some.injEq, Prod.mk.injEq] at h
    obtain ⟨rfl, rfl⟩ := h
    rw [hc] at h1
    simp only [VR] at h1
    obtain ⟨h1, _⟩ := h1
    refine NOk.of_run (w' := w) (v := .tuple #[]) ?_ (hnext ι _ w (Tr.refl r) (by simp [VR, VRL]))
    simp only [execOp, ho]
    simp [resolve, invoke, builtin, Builtin.clear_, h1, run_underlying ht]
  · rename_i b off sz' len cap ex hc
    rw [hc] at h1
    simp only [VR] at h1
    obtain ⟨L, ad, cap', e1, h1, e3, e4, e5, e6, e7, e8, e9, e10⟩ := h1
    split at h
    case isFalse => cases h
    rename_i hss
    subst hss
    split at h
    · rename_i hl0
      subst hl0
      simp only [Option.some.injEq, Prod.mk.injEq] at h
      obtain ⟨rfl, rfl⟩ := h
      refine NOk.of_run (w' := w) (v := .tuple #[]) ?_ (hnext ι _ w (Tr.refl r) (by simp [VR, VRL]))
      simp only [execOp, ho]
      simp [resolve, invoke, builtin, Builtin.clear_, h1, run_underlying ht]
    · rename_i hl0
      obtain ⟨M1, hM, h⟩ := Option.map_eq_some_iff.1 h
      simp only [Prod.mk.injEq] at h
      obtain ⟨rfl, rfl⟩ := h
      obtain ⟨z, hz1, hz2, hz3⟩ := run_zero (P := P) hz w
      obtain ⟨l, w', hl, hrun, htr⟩ := write_run (P := P) r hM (reps_VR (hz2 ι) len) (fun c hc => hz3 c (reps_mem hc))
      rw [e1] at hl
      obtain rfl := Option.some.inj hl
      replace e3 := e3.resolve_left (by omega)
      replace e4 := e4.resolve_left (by omega)
      have h0 := e5.resolve_left (by omega)
      have had : ad = ⟨L.j, L.d + off, none⟩ := by
        obtain ⟨q1, q2, q3⟩ := ad
        simp only at e3 e4 h0
        subst e3 e4 h0
        rfl
      subst had
      refine NOk.of_run (w' := w') (v := .tuple #[]) ?_ (hnext ι _ w' htr (by simp [VR, VRL]))
      obtain ⟨m, rfl⟩ : ∃ m, len = m + 1 := ⟨len - 1, by omega⟩
      simp only [execOp, ho]
      simp [resolve, invoke, builtin, Builtin.clear_, h1, run_underlying ht, hz1, zeroCells_eq, hrun]

theorem NOk.cvBytes {P : Program} {C : ACalls} {o : Oper} {t elem : TypeId} {x : Operand} {ax : AX} (ho : o.op = .convert t t x) (ht : P.underlying t = some (.slice elem)) (he8 : P.underlying elem = some (.int .u8)) (hx : cX x = some ax) : NOk P C o (.cvBytes ax) := by
  intro ι M e a w v M' next Q r he h hnext
  have h1 := cX_VR hx he
  simp only [aN] at h
  unfold aCvBytes at h
  split at h
  case h_2 => cases h
  rename_i b off sz len cap ex hc
  split at h
  · cases h
  rename_i hcap
  split at h
  case h_2 => cases h
  rename_i c sl hb
  simp only [Option.some.injEq, Prod.mk.injEq] at h
  obtain ⟨rfl, rfl⟩ := h
  rw [hc] at h1
  have h1' := h1
  simp only [VR] at h1
  obtain ⟨L, ad, cap', e1, h1, e3, e4, e5, e6, e7, e8, e9, e10⟩ := h1
  have e3 := e3.resolve_left (by omega)
  obtain ⟨l', ob, hl', hob, cs, el, fz, rfl, b2, b3, b4, b5, b6⟩ := r.blk b _ hb
  rw [e1] at hl'
  obtain rfl := Option.some.inj hl'
  have hsh : w.shape? ad.block = some (el, cs.size) := by
    unfold World.shape?
    rw [e3, hob]
  have htr : Tr ι M w ι (M.put b (some (.cells c false sl))) (w.freeze { block := ad.block, off := cs.size } 1) := by
    refine Tr.update (l := L) (ob := .cells cs el (if fz.1 == fz.2 then (cs.size, cs.size + 1) else (min fz.1 cs.size, max fz.2 (cs.size + 1)))) r hb rfl rfl e1 ?_ ?_
    · rw [e3]
      have hj : L.j < w.heap.size := (Array.getElem?_eq_some_iff.1 hob).1
      obtain ⟨lo, hi⟩ := fz
      refine ⟨by simp [World.freeze], fun i hi => ?_, ?_, rfl, rfl, rfl⟩
      · simp only [World.freeze, if_neg (show ¬ (1 = 0) by decide), Array.getElem?_modify]
        rw [if_neg (fun h => hi h.symm)]
      · simp only [World.freeze, if_neg (show ¬ (1 = 0) by decide), Array.getElem?_modify, if_true, hob, Option.map_some]
    · refine ⟨cs, el, _, rfl, b2, b3, b4, b5, fun _ => .inr ?_⟩
      have := b6 rfl
      split
      · exact Nat.le_refl _
      · rename_i hne
        simp only [beq_iff_eq] at hne
        simp only
        omega
  refine NOk.of_run (w' := w.freeze { block := ad.block, off := cs.size } 1) (v := a.eval x) ?_ (hnext ι _ _ htr h1')
  simp only [execOp, ho, h1]
  simp [convert, run_underlying ht, run_underlying he8, markStringish, hsh]

end Go.Proofs.Ytachollgbplikaa
