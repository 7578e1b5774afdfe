/- The abstract machine, seventh part: the loud operations are right. -/
import Derived.Test.YtachollgbplikaaAm6
set_option linter.unusedVariables false
set_option linter.unusedSimpArgs false
namespace Go.Proofs.Ytachollgbplikaa

/-- What a called function is to keep: over whatever is related, it returns what the machine's does. -/
def Sound (P : Program) (f : FuncId) (g : List AV → Heap → Option (AV × Heap)) : Prop :=
  ∀ (args : List AV) (M : Heap) (v : AV) (M' : Heap), g args M = some (v, M') →
    ∀ (ι : Inj) (w : World) (vs : Array Value), R ι M w → VRL ι args vs.toList →
      Calls P f vs w fun e w' => ∃ ι' v', e = .returned v' ∧ VR ι' v v' ∧ Tr ι M w ι' M' w'

/-- Of a function that has a body. -/
def Bodied (P : Program) (f : FuncId) : Prop := ∃ fn c, P.funcs[f]? = some fn ∧ fn.body = some c ∧ (fn.name == "runtime.NumGoroutine") = false

def CallsOk (P : Program) (C : ACalls) : Prop := ∀ f, (∀ args M r, C f args M = some r → Bodied P f) ∧ Sound P f (C f)

def NOk (P : Program) (C : ACalls) (o : Oper) (n : NOp) : Prop :=
  ∀ (ι : Inj) (M : Heap) (e : Env) (a : Act) (w : World) (v : AV) (M' : Heap) (next : Act → World → Prop) (Q : Exit → Act → World → Prop), R ι M w → VRL ι e a.tmps.toList → aN C n e M = some (v, M') →
    (∀ ι' v' w', Tr ι M w ι' M' w' → VR ι' v v' → next (a.put o.dst v') w') → o.wp P a w next Q

theorem NOk.of_run {P : Program} {o : Oper} {a : Act} {w w' : World} {next : Act → World → Prop} {Q : Exit → Act → World → Prop} {v : Value} (h : (execOp a.eval o).run P w = .ok (.value v) w') (hn : next (a.put o.dst v) w') : o.wp P a w next Q := by
  unfold Oper.wp
  rw [h]
  exact hn

theorem NOk.of_skip {P : Program} {o : Oper} {a : Act} {w w' : World} {next : Act → World → Prop} {Q : Exit → Act → World → Prop} (h : (execOp a.eval o).run P w = .ok .skip w') (hn : next (a.put o.dst undef) w') : o.wp P a w next Q := by
  unfold Oper.wp
  rw [h]
  exact hn

theorem VR.unit (ι : Inj) : VR ι (.tuple []) Go.undef := by
  simp only [VR, Go.undef]
  exact ⟨#[], rfl, by simp [VRL]⟩

theorem NOk.fail {P : Program} {C : ACalls} {o : Oper} : NOk P C o .fail := by
  intro ι M e a w v M' next Q r he h
  simp [aN] at h

theorem NOk.store {P : Program} {C : ACalls} {o : Oper} {t : TypeId} {n : Nat} {x y : Operand} {ax ay : AX} (ho : o.op = .store t x y) (hn : szOf P t = some n) (hx : cX x = some ax) (hy : cX y = some ay) : NOk P C o (.store n ax ay) := by
  intro ι M e a w v M' next Q r he h hnext
  have h1 := cX_VR hx he
  have h2 := cX_VR hy he
  simp only [aN] at h
  unfold aStore at h
  split at h
  case h_2 => cases h
  rename_i b off cs hc1 hc2
  split at h
  case isFalse => cases h
  rename_i hlen
  obtain ⟨M1, hM, h⟩ := Option.map_eq_some_iff.1 h
  simp only [Prod.mk.injEq] at h
  obtain ⟨rfl, rfl⟩ := h
  rw [hc1] at h1
  simp only [VR] at h1
  obtain ⟨L, hL, h1⟩ := h1
  obtain ⟨g1, g2⟩ := cells?_VR hc2 h2
  obtain ⟨l, w', hl, hrun, htr⟩ := write_run (P := P) r hM g1 g2
  rw [hL] at hl
  obtain rfl := Option.some.inj hl
  have hsz : (a.eval y).cells.size = n := by have := g1.length; simp at this; omega
  refine NOk.of_skip (w' := w') ?_ (hnext ι undef w' htr (VR.unit _))
  simp only [execOp, ho, h1]
  simp [Instr.storeAt, Instr.sureAddr, storeVar, run_sz hn, hsz, hrun]

theorem NOk.call {P : Program} {C : ACalls} (hC : CallsOk P C) {o : Oper} {f : Operand} {args : Array Operand} {ts : Array TypeId} {af : AX} {al : List AX} (ho : o.op = .call { callee := .value f, args := args, argTypes := ts }) (hf : cX f = some af) (hx : cXs args.toList = some al) : NOk P C o (.call af al) := by
  intro ι M e a w v M' next Q r he h hnext
  have h1 := cX_VR hf he
  have h2 := cXs_VR he hx
  simp only [aN] at h
  unfold aCall at h
  split at h
  case h_2 => cases h
  rename_i g caps hc
  rw [hc] at h1
  simp only [VR] at h1
  obtain ⟨cs, h1, h3⟩ := h1
  obtain ⟨fn, c, hfn, hbody, hname⟩ := (hC g).1 _ _ _ h
  have hs := (hC g).2 _ _ _ _ h ι w (args.map a.eval ++ cs) r (by simpa using h2.append h3)
  have hrun : (execOp a.eval o).run P w = .ok (.enter g (args.map a.eval ++ cs)) w := by
    simp only [execOp, ho]
    have hname' : ¬ (fn.name = "runtime.NumGoroutine") := by simpa using hname
    simp [resolve, Deferred.ofValue, h1, invoke, callFunc, hfn, hbody, hname']
  unfold Oper.wp
  rw [hrun]
  rw [Oper.upon_enter]
  refine hs.mono ?_
  rintro e' w' ⟨ι', v', rfl, hv', htr⟩
  exact hnext ι' v' w' htr hv'

/-! ### append -/

theorem zeroCells_eq (z : Array Value) (n : Nat) : Builtin.zeroCells z n = madeCells z (n * z.size) := rfl

/-- append, where it grows. -/
theorem run_append_more {P : Program} (w : World) (t u ty e : TypeId) (i : TypeInfo) (z : Value) (ht : P.underlying t = some (.slice e)) (hu : P.underlying u = some .string ∨ ∃ e', P.underlying u = some (.slice e')) (hi : P.info? e = some i) (hz : i.zero = some z)
    (base : Option Addr) (sLen sCap n : Nat) (x : Value) (olds news : Array Value) (hold : ∀ w', w'.heap = w.heap → (Builtin.firstCells i.size sLen (.slice base sLen sCap)).run P w' = .ok olds w')
    (hlen : ∀ w', (Builtin.lenOf x).run P w' = .ok n w') (hnew : ∀ w', w'.heap = w.heap → (Builtin.firstCells i.size n x).run P w' = .ok news w')
    (hg : sCap < sLen + n) (h63 : ((sLen + n : Nat) : Int) ≤ 9223372036854775807) (hfit : Builtin.nextslicecap (sLen + n) sCap * i.bytes ≤ 281474976710656) :
    (Builtin.append_ #[t, u] ty #[.slice base sLen sCap, x]).run P w =
      .ok (.slice (some ⟨w.heap.size, 0, none⟩) (sLen + n) (grownCap w (sLen + n) sCap e))
        (w.drew.alloc (.cells (olds ++ news ++ madeCells z.cells ((grownCap w (sLen + n) sCap e - (sLen + n)) * z.cells.size)) e)) := by
  have hn : ¬ (sLen + n ≤ sCap) := by omega
  have h63' : ¬ (9223372036854775807 < ((sLen : Int) + (n : Int))) := by omega
  have h48' : ¬ (281474976710656 < Builtin.nextslicecap (sLen + n) sCap * i.bytes) := by omega
  have h1 := hold w.drew rfl
  have h2 := hnew w.drew rfl
  rcases hu with hu | ⟨e', hu⟩ <;>
    simp [Builtin.append_, run_underlying ht, run_underlying hu, sizeOf, typeInfo, zeroValue, hi, hz, hlen, hn, h63', h48', Question.forced, h1, h2, newRow, grownCap, zeroCells_eq]

theorem run_append_more_zeros {P : Program} (w : World) (t u ty e : TypeId) (i : TypeInfo) (z : Value) (ht : P.underlying t = some (.slice e)) (hu : ∃ k, P.underlying u = some (.int k)) (hi : P.info? e = some i) (hz : i.zero = some z)
    (base : Option Addr) (sLen sCap n : Nat) (kk : IntKind) (olds : Array Value) (hold : ∀ w', w'.heap = w.heap → (Builtin.firstCells i.size sLen (.slice base sLen sCap)).run P w' = .ok olds w') (hsz : 0 < i.size) (hzs : z.cells.size = i.size)
    (hn0 : 0 < n) (hg : sCap < sLen + n) (h63 : ((sLen + n : Nat) : Int) ≤ 9223372036854775807) (hb : n * i.bytes ≤ 281474976710656) (hfit : Builtin.nextslicecap (sLen + n) sCap * i.bytes ≤ 281474976710656) :
    (Builtin.append_ #[t, u] ty #[.slice base sLen sCap, .int kk n]).run P w =
      .ok (.slice (some ⟨w.heap.size, 0, none⟩) (sLen + n) (grownCap w (sLen + n) sCap e))
        (w.drew.alloc (.cells (olds ++ madeCells z.cells (n * z.cells.size) ++ madeCells z.cells ((grownCap w (sLen + n) sCap e - (sLen + n)) * z.cells.size)) e)) := by
  have hn : ¬ (sLen + n ≤ sCap) := by omega
  have h63' : ¬ (9223372036854775807 < ((sLen : Int) + (n : Int))) := by omega
  have h48' : ¬ (281474976710656 < Builtin.nextslicecap (sLen + n) sCap * i.bytes) := by omega
  obtain ⟨k, hu⟩ := hu
  have h1 := hold w.drew rfl
  have hw : IntKind.i64.wrap (n : Int) = n := by rw [IntKind.wrap_i64]; omega
  have hb' : ¬ ((281474976710656 : Int) < (n : Int) * (i.bytes : Int)) := by
    rw [← Int.natCast_mul]
    omega
  have h0 : ¬ (n * i.size = 0) := by
    intro h
    rcases Nat.mul_eq_zero.1 h with h | h <;> omega
  have hneg : ¬ ((n : Int) < 0) := by omega
  simp [Builtin.append_, run_underlying ht, run_underlying hu, sizeOf, typeInfo, zeroValue, hi, hz, hn, h63', h48', Question.forced, h1, newRow, grownCap, zeroCells_eq, asInt, asIntOf, hw, hb', h0, hneg]

/-- append, where there is room. -/
theorem run_append_room {P : Program} (w : World) (t u ty e : TypeId) (i : TypeInfo) (ht : P.underlying t = some (.slice e)) (hu : P.underlying u = some .string ∨ ∃ e', P.underlying u = some (.slice e')) (hi : P.info? e = some i)
    (ad : Addr) (sLen sCap n : Nat) (x : Value) (news : Array Value) (w' : World)
    (hlen : ∀ w', (Builtin.lenOf x).run P w' = .ok n w') (hnew : (Builtin.firstCells i.size n x).run P w = .ok news w)
    (hg : sLen + n ≤ sCap) (hst : (storeCells (ad.add (sLen * i.size)) news.toList).run P w = .ok () w') :
    (Builtin.append_ #[t, u] ty #[.slice (some ad) sLen sCap, x]).run P w = .ok (.slice (some ad) (sLen + n) sCap) w' := by
  rcases hu with hu | ⟨e', hu⟩ <;>
    simp [Builtin.append_, run_underlying ht, run_underlying hu, sizeOf, typeInfo, hi, hlen, hg, hnew, hst]

theorem run_append_room_zeros {P : Program} (w : World) (t u ty e : TypeId) (i : TypeInfo) (z : Value) (ht : P.underlying t = some (.slice e)) (hu : ∃ k, P.underlying u = some (.int k)) (hi : P.info? e = some i) (hz : i.zero = some z)
    (ad : Addr) (sLen sCap n : Nat) (kk : IntKind) (w' : World) (hsz : 0 < i.size) (hn63 : (n : Int) ≤ 9223372036854775807) (hb : n * i.bytes ≤ 281474976710656)
    (hn0 : 0 < n) (hg : sLen + n ≤ sCap) (hst : (storeCells (ad.add (sLen * i.size)) (madeCells z.cells (n * z.cells.size)).toList).run P w = .ok () w') :
    (Builtin.append_ #[t, u] ty #[.slice (some ad) sLen sCap, .int kk n]).run P w = .ok (.slice (some ad) (sLen + n) sCap) w' := by
  obtain ⟨k, hu⟩ := hu
  have hw : IntKind.i64.wrap (n : Int) = n := by rw [IntKind.wrap_i64]; omega
  have hb' : ¬ ((281474976710656 : Int) < (n : Int) * (i.bytes : Int)) := by
    rw [← Int.natCast_mul]
    omega
  have h0 : ¬ (n * i.size = 0) := by
    intro h
    rcases Nat.mul_eq_zero.1 h with h | h <;> omega
  have hneg : ¬ ((n : Int) < 0) := by omega
  simp [Builtin.append_, run_underlying ht, run_underlying hu, sizeOf, typeInfo, zeroValue, hi, hz, hg, asInt, asIntOf, hw, hb', h0, zeroCells_eq, hst, hneg]

/-- append at a nil slice of nothing. -/
theorem run_append_nothing {P : Program} (w : World) (t u ty e : TypeId) (i : TypeInfo) (ht : P.underlying t = some (.slice e)) (hu : P.underlying u = some .string ∨ ∃ e', P.underlying u = some (.slice e')) (hi : P.info? e = some i)
    (base : Option Addr) (sLen sCap : Nat) (x : Value) (hlen : ∀ w', (Builtin.lenOf x).run P w' = .ok 0 w') (hnew : (Builtin.firstCells i.size 0 x).run P w = .ok #[] w) (hg : sLen ≤ sCap) :
    (Builtin.append_ #[t, u] ty #[.slice base sLen sCap, x]).run P w = .ok (.slice base sLen sCap) w := by
  rcases hu with hu | ⟨e', hu⟩ <;> cases base <;>
    simp [Builtin.append_, run_underlying ht, run_underlying hu, sizeOf, typeInfo, hi, hlen, hg, hnew, storeCells]

/-- The elements that are appended, in the model. -/
theorem elems_run {P : Program} {ι : Inj} {M : Heap} {w : World} (r : R ι M w) {x : AV} {v : Value} (hx : VR ι x v) {sz n : Nat} {new : List AV} (hs : aElemSize x sz = true) (h : aElems x M = some (n, new)) :
    (∀ w', (Builtin.lenOf v).run P w' = .ok n w') ∧ ∃ news : Array Value, (∀ w', w'.heap = w.heap → (Builtin.firstCells sz n v).run P w' = .ok news w') ∧ VRL ι new news.toList ∧ (∀ a, a ∈ new → a.isCell = true) ∧ new.length = n * sz := by
  unfold aElems at h
  split at h
  · rename_i sz' len cap ex
    simp only [Option.some.injEq, Prod.mk.injEq] at h
    obtain ⟨rfl, rfl⟩ := h
    simp only [VR] at hx
    obtain ⟨rfl, rfl, _⟩ := hx
    refine ⟨fun w' => by simp [Builtin.lenOf], #[], fun w' _ => by simp [Builtin.firstCells], by simp [VRL], by simp, by simp⟩
  · rename_i b o sz' len cap ex
    split at h
    · rename_i h0
      subst h0
      simp only [Option.some.injEq, Prod.mk.injEq] at h
      obtain ⟨rfl, rfl⟩ := h
      simp only [VR] at hx
      obtain ⟨L, ad, cap', e1, rfl, e3, e4, e5, e6, e7, e8, e9, e10⟩ := hx
      refine ⟨fun w' => by simp [Builtin.lenOf], #[], fun w' _ => by simp [Builtin.firstCells, loadCells, loadCellsFrom], by simp [VRL], by simp, by simp⟩
    rename_i hlen0
    obtain ⟨cs, hcs, h⟩ := Option.map_eq_some_iff.1 h
    simp only [Prod.mk.injEq] at h
    obtain ⟨rfl, rfl⟩ := h
    simp only [aElemSize, beq_iff_eq] at hs
    subst hs
    simp only [VR] at hx
    obtain ⟨L, ad, cap', e1, rfl, e3, e4, e5, e6, e7, e8, e9, e10⟩ := hx
    obtain ⟨hlen, hc, l, vs, hl, hr, hcell⟩ := r.read hcs
    rw [e1] at hl
    obtain rfl := Option.some.inj hl
    refine ⟨fun w' => by simp [Builtin.lenOf], vs.toArray, fun w' hw' => ?_, by simpa using hr, hc, hlen⟩
    have hvl : vs.length = len * sz' := by rw [← hr.length, hlen]
    rcases Nat.eq_zero_or_pos cap' with h0 | hpos
    · obtain rfl : len = 0 := by omega
      have : vs = [] := by cases vs with | nil => rfl | cons _ _ => simp at hvl
      subst this
      simp [Builtin.firstCells, loadCells, loadCellsFrom]
    · replace e3 := e3.resolve_left (by omega)
      replace e4 := e4.resolve_left (by omega)
      have h0 := e5.resolve_left (by omega)
      have had : ad = ⟨L.j, L.d + o, none⟩ := by
        obtain ⟨q1, q2, q3⟩ := ad
        simp only at e3 e4 h0
        subst e3 e4 h0
        rfl
      rw [had]
      refine run_firstCells_some w' sz' len _ len cap' vs hvl fun j v hv => ?_
      rw [add_none]
      have := hcell j v hv
      unfold World.cell? at this ⊢
      rw [hw']
      exact this
  · rename_i s
    simp only [Option.some.injEq, Prod.mk.injEq] at h
    obtain ⟨rfl, rfl⟩ := h
    simp only [aElemSize, beq_iff_eq] at hs
    subst hs
    simp only [VR] at hx
    obtain ⟨b, rfl, rfl⟩ := hx
    have hbl : b.data.toList.length = b.size := by simp
    refine ⟨fun w' => by simp [Builtin.lenOf], b.data.map (fun c => Value.int .u8 c.toNat), fun w' _ => ?_, ?_, ?_, by simp⟩
    · rw [hbl]
      simp [Builtin.firstCells]
    · refine VRL.of_get (by simp) fun i x y hx hy => ?_
      simp only [Array.toList_map, List.getElem?_map, Option.map_eq_some_iff] at hx hy
      obtain ⟨u, hu, rfl⟩ := hx
      obtain ⟨u', hu', rfl⟩ := hy
      rw [hu] at hu'
      obtain rfl := Option.some.inj hu'
      simp [VR]
    · intro c hc
      obtain ⟨u, _, rfl⟩ := List.mem_map.1 hc
      rfl
  · cases h

theorem append_sound {P : Program} {ι : Inj} {M M' : Heap} {w : World} (r : R ι M w) {e : TypeId} {i : TypeInfo} {z : Value} {s v : AV} {sv : Value} (hs : VR ι s sv) {n : Nat} {new : List AV} {news : Array Value} (hnew : VRL ι new news.toList) (hc : ∀ a, a ∈ new → a.isCell = true) (hlen : new.length = n * i.size) (hsz : 0 < i.size) (hzs : z.cells.size = i.size)
    (h : aAppend i.size i.bytes s n new M = some (v, M')) {run : World → Result Value}
    (hroom : ∀ ad sLen sCap w', 0 < n → sv = .slice (some ad) sLen sCap → sLen + n ≤ sCap → (storeCells (ad.add (sLen * i.size)) news.toList).run P w = .ok () w' → run w = .ok (.slice (some ad) (sLen + n) sCap) w')
    (hmore : ∀ base sLen sCap olds, sv = .slice base sLen sCap → (∀ w', w'.heap = w.heap → (Builtin.firstCells i.size sLen (.slice base sLen sCap)).run P w' = .ok olds w') → 0 < n → sCap < sLen + n → ((sLen + n : Nat) : Int) ≤ 9223372036854775807 → n * i.bytes ≤ 281474976710656 → Builtin.nextslicecap (sLen + n) sCap * i.bytes ≤ 281474976710656 →
      run w = .ok (.slice (some ⟨w.heap.size, 0, none⟩) (sLen + n) (grownCap w (sLen + n) sCap e)) (w.drew.alloc (.cells (olds ++ news ++ madeCells z.cells ((grownCap w (sLen + n) sCap e - (sLen + n)) * z.cells.size)) e)))
    (hnothing : ∀ base sLen sCap, n = 0 → sv = .slice base sLen sCap → sLen ≤ sCap → run w = .ok (.slice base sLen sCap) w) :
    ∃ ι' v' w', run w = .ok v' w' ∧ VR ι' v v' ∧ Tr ι M w ι' M' w' := by
  have hnl : news.size = n * i.size := by have := hnew.length; simp at this; omega
  -- a new block, whatever the base
  have fresh : ∀ (base : Option Addr) (sLen sCap : Nat) (old : List AV) (olds : Array Value), sv = .slice base sLen sCap → (∀ w', w'.heap = w.heap → (Builtin.firstCells i.size sLen (.slice base sLen sCap)).run P w' = .ok olds w') → VRL ι old olds.toList → (∀ a, a ∈ old → a.isCell = true) → old.length = sLen * i.size → 0 < n → sCap < sLen + n →
      (sLen + n) * i.bytes ≤ 70368744177664 → sLen + n ≤ 70368744177664 → ∀ {M1 : Heap}, R ι M1 w → M1.next = M.next → ∃ ι' v' w', run w = .ok v' w' ∧ VR ι' (.slice (some (M.next, 0)) i.size (sLen + n) (sLen + n) false) v' ∧ Tr ι M1 w ι' (M1.push (.cells (old ++ new) false true)) w' := by
    intro base sLen sCap old olds hsv hold ho1 ho2 ho3 hn0 hg hb1 hb2 M1 r1 hnext
    have hb3 : n * i.bytes ≤ (sLen + n) * i.bytes := Nat.mul_le_mul_right _ (by omega)
    have hrun := hmore base sLen sCap olds hsv hold hn0 hg (by omega) (by omega) (growslice_fits hg (by omega))
    have hcap : sLen + n ≤ grownCap w (sLen + n) sCap e := by simp only [grownCap, Question.cut]; omega
    have hos : olds.size = sLen * i.size := by have := ho1.length; simp at this; omega
    have hmul : (sLen + n) * i.size = sLen * i.size + n * i.size := Nat.add_mul _ _ _
    have hmul2 : grownCap w (sLen + n) sCap e * i.size = (sLen + n) * i.size + (grownCap w (sLen + n) sCap e - (sLen + n)) * i.size := by rw [← Nat.add_mul]; congr 1; omega
    have htot : (olds ++ news ++ madeCells z.cells ((grownCap w (sLen + n) sCap e - (sLen + n)) * z.cells.size)).size = grownCap w (sLen + n) sCap e * i.size := by
      simp only [Array.size_append, size_madeCells, hzs]
      omega
    have hnone := (r1.fresh M1.next (Nat.le_refl _)).2
    refine ⟨_, _, _, hrun, ?_, Tr.push r1 rfl (Made.drew_alloc _ _) (BR.new (cs := old ++ new) ⟨(sLen + n) * i.size, ?_, ?_, fun h => by cases h⟩ ?_ (.inl rfl))⟩
    · simp only [VR]
      refine ⟨_, _, _, by rw [hnext]; simp [Inj.set]; rfl, rfl, .inr rfl, .inr rfl, .inr rfl, Nat.le_refl _, hcap, (fun h => by cases h), ?_, hsz⟩
      have h1 := htot
      simp only [Array.size_append] at h1 ⊢
      omega
    · have e1 : (olds ++ news ++ madeCells z.cells ((grownCap w (sLen + n) sCap e - (sLen + n)) * z.cells.size)).toList.take ((sLen + n) * i.size) = olds.toList ++ news.toList := by
        simp only [Array.toList_append]
        rw [List.take_append_of_le_length (by simp; omega), List.take_of_length_le (by simp; omega)]
      rw [e1]
      have hle := Inj.set_le hnone ⟨w.heap.size, 0, (olds ++ news ++ madeCells z.cells ((grownCap w (sLen + n) sCap e - (sLen + n)) * z.cells.size)).size⟩
      exact (ho1.append hnew).mono hle
    · rw [htot]; omega
    · intro c hcm
      rcases List.mem_append.1 hcm with hcm | hcm
      · exact ho2 c hcm
      · exact hc c hcm
  unfold aAppend at h
  split at h
  case h_2 => cases h
  rename_i a sz' len cap ex
  split at h
  · cases h
  rename_i hasz
  split at h
  · -- surely room
    rename_i hroomy
    cases a with
    | none =>
      simp only at h
      split at h
      case isFalse => cases h
      rename_i hn0
      simp only [Option.some.injEq, Prod.mk.injEq] at h
      obtain ⟨rfl, rfl⟩ := h
      have hs' := hs
      simp only [VR] at hs'
      obtain ⟨rfl, rfl, rfl, rfl⟩ := hs'
      refine ⟨ι, _, w, hnothing none 0 0 hn0 rfl (Nat.le_refl _), ?_, Tr.refl r⟩
      simp [VR]
    | some p =>
      obtain ⟨b, o⟩ := p
      obtain rfl : sz' = i.size := by simpa using hasz
      have hs' := hs
      simp only [VR] at hs'
      obtain ⟨L, ad, cap', e1, rfl, e3, e4, e5, e6, e7, e8, e9, e10⟩ := hs'
      simp only at h
      split at h
      · rename_i hn0
        simp only [Option.some.injEq, Prod.mk.injEq] at h
        obtain ⟨rfl, rfl⟩ := h
        exact ⟨ι, _, w, hnothing _ _ _ hn0 rfl (by omega), hs, Tr.refl r⟩
      · rename_i hn0
        obtain ⟨M1, hM, h⟩ := Option.map_eq_some_iff.1 h
        simp only [Prod.mk.injEq] at h
        obtain ⟨rfl, rfl⟩ := h
        obtain ⟨l, w', hl, hrun, htr⟩ := write_run (P := P) r hM hnew hc
        rw [e1] at hl
        obtain rfl := Option.some.inj hl
        replace e3 := e3.resolve_left (by omega)
        replace e4 := e4.resolve_left (by omega)
        have h0 := e5.resolve_left (by omega)
        have had : ad = ⟨L.j, L.d + o, none⟩ := by
          obtain ⟨q1, q2, q3⟩ := ad
          simp only at e3 e4 h0
          subst e3 e4 h0
          rfl
        subst had
        refine ⟨ι, _, w', hroom _ _ _ w' (by omega) rfl (by omega) ?_, ?_, htr⟩
        · rw [add_none]
          rw [← Nat.add_assoc] at hrun
          exact hrun
        · simp only [VR]
          exact ⟨L, _, cap', e1, rfl, .inr rfl, .inr rfl, .inr rfl, by omega, e7, e8, e9, e10⟩
  · rename_i hnoroom
    split at h
    case isFalse => cases h
    rename_i hbounds
    cases a with
    | none =>
      simp only [Option.some.injEq, Prod.mk.injEq] at h
      obtain ⟨rfl, rfl⟩ := h
      have hs' := hs
      simp only [VR] at hs'
      obtain ⟨rfl, rfl, rfl, rfl⟩ := hs'
      have := fresh none 0 0 [] #[] rfl (fun w' _ => by simp [Builtin.firstCells]) (by simp [VRL]) (by simp) (by simp) (by omega) (by omega) hbounds.1 hbounds.2 r rfl
      simpa using this
    | some p =>
      obtain ⟨b, o⟩ := p
      obtain rfl : sz' = i.size := by simpa using hasz
      obtain ⟨old, hold, h⟩ := Option.bind_eq_some_iff.1 h
      have hs' := hs
      simp only [VR] at hs'
      obtain ⟨L, ad, cap', e1, rfl, e3, e4, e5, e6, e7, e8, e9, e10⟩ := hs'
      have hel : ∃ olds : Array Value, (∀ w', w'.heap = w.heap → (Builtin.firstCells i.size len (.slice (some ad) len cap')).run P w' = .ok olds w') ∧ VRL ι old olds.toList ∧ (∀ a, a ∈ old → a.isCell = true) ∧ old.length = len * i.size := by
        have := (elems_run (P := P) r hs (sz := i.size) (n := len) (new := old) (by simp [aElemSize]) (by
          simp only [aElems]
          by_cases h0 : len = 0
          · have : old = [] := by
              split at hold
              · exact (Option.some.inj hold).symm
              · have := (r.read hold).1
                rw [h0] at this
                simpa using this
            simp [h0, this]
          · rw [if_neg (fun hx => h0 hx.2)] at hold
            simp [h0, hold])).2
        exact this
      obtain ⟨olds, ho1, ho2, ho3, ho4⟩ := hel
      split at h
      · rename_i hex
        simp only [Option.some.injEq, Prod.mk.injEq] at h
        obtain ⟨rfl, rfl⟩ := h
        have := e8 hex
        exact fresh (some ad) len cap' old olds rfl ho1 ho2 ho3 ho4 (by omega) (by omega) hbounds.1 hbounds.2 r rfl
      · split at h
        case h_2 => cases h
        rename_i c sl hb
        simp only [Option.some.injEq, Prod.mk.injEq] at h
        obtain ⟨rfl, rfl⟩ := h
        have hblt := r.lt hb
        rcases Nat.lt_or_ge cap' (len + n) with hg | hg
        · have hk := Tr.kill r b hblt
          obtain ⟨ι', v', w', q1, q2, q3⟩ := fresh (some ad) len cap' old olds rfl ho1 ho2 ho3 ho4 (by omega) hg hbounds.1 hbounds.2 hk.rel rfl
          exact ⟨ι', v', w', q1, q2, hk.trans q3⟩
        · -- there is room
          replace e3 := e3.resolve_left (by omega)
          replace e4 := e4.resolve_left (by omega)
          have h0 := e5.resolve_left (by omega)
          have had : ad = ⟨L.j, L.d + o, none⟩ := by
            obtain ⟨q1, q2, q3⟩ := ad
            simp only at e3 e4 h0
            subst e3 e4 h0
            rfl
          subst had
          have hmul : (len + n) * i.size = len * i.size + n * i.size := Nat.add_mul _ _ _
          have hmul2 : (len + n) * i.size ≤ cap' * i.size := Nat.mul_le_mul_right _ hg
          have hnpos : 0 < n * i.size := Nat.mul_pos (by omega) hsz
          obtain ⟨w', cs, cs', elem, fz, g1, g2, g3, g4, g5⟩ := write_loc (P := P) r hb e1 (o := o + len * i.size) (vs := news.toList) (by intro hn; have := congrArg List.length hn; simp at this; simp [this] at hnl; omega) (by simp; omega) (hnew.oneCell hc)
          rw [← Nat.add_assoc] at g1
          have hrun := hroom _ _ _ w' (by omega) rfl hg (by rw [add_none]; exact g1)
          have hnone := (r.fresh M.next (Nat.le_refl _)).2
          have hle := Inj.set_le hnone ⟨L.j, L.d + o, L.N - o⟩
          refine ⟨_, _, w', hrun, ?_, Tr.rename (l' := ⟨L.j, L.d + o, L.N - o⟩) r hb rfl rfl e1 rfl g3 ?_⟩
          · simp only [VR]
            refine ⟨⟨L.j, L.d + o, L.N - o⟩, ⟨L.j, L.d + o, none⟩, cap', by simp [Inj.set], rfl, .inr rfl, .inr rfl, .inr rfl, Nat.le_refl _, hg, (fun h => by cases h), ?_, hsz⟩
            simp only
            omega
          · obtain ⟨cs0, elem0, fz0, eq0, b2, b3, b4, b5, b6⟩ := g5
            obtain ⟨rfl, rfl, rfl⟩ : cs0 = cs ∧ elem0 = elem ∧ fz0 = fz := by injection eq0 with e1 e2 e3; exact ⟨e1.symm, e2.symm, e3.symm⟩
            have hsz' : cs'.size = cs0.size := by
              have := congrArg List.length g4
              simp at this
              omega
            -- the old cells, too, as they are read
            obtain ⟨_, _, l0, vs0, hl0, hr0, hcell0⟩ := r.read (b := b) (o := o) (cs := old) (n := len * i.size) (by
              rw [if_neg (fun hx => absurd hx.1 ‹¬ex = true›)] at hold
              exact hold)
            rw [e1] at hl0
            obtain rfl := Option.some.inj hl0
            refine ⟨cs', elem0, fz0, rfl, by simp only; omega, by simp; omega, (fun h => by cases h), fun k a hk => ?_, fun _ => by rw [hsz']; exact b6 rfl⟩
            simp only
            rw [List.getElem?_append] at hk
            split at hk
            · rename_i hk1
              obtain ⟨v0, hv0, hvr⟩ := hr0.get k a hk
              refine ⟨v0, ?_, ho3 a (List.mem_of_getElem? hk), hvr.mono hle⟩
              have hcl := hcell0 k v0 hv0
              simp [World.cell?, g2] at hcl
              have hlt := (Array.getElem?_eq_some_iff.1 hcl).1
              rw [← Array.getElem?_toList, g4, List.append_assoc, List.getElem?_append_left (by simp; omega), List.getElem?_take, if_pos (by omega), Array.getElem?_toList]
              exact hcl
            · rename_i hk1
              obtain ⟨v0, hv0, hvr⟩ := hnew.get _ a hk
              have hlt := (List.getElem?_eq_some_iff.1 hv0).1
              refine ⟨v0, ?_, hc a (List.mem_of_getElem? hk), hvr.mono hle⟩
              rw [← Array.getElem?_toList, g4, List.append_assoc, List.getElem?_append_right (by simp; omega), List.getElem?_append_left (by simp at hlt ⊢; omega)]
              have : L.d + o + k - (cs0.toList.take (L.d + (o + len * i.size))).length = k - old.length := by simp; omega
              rw [this]
              exact hv0

end Go.Proofs.Ytachollgbplikaa
