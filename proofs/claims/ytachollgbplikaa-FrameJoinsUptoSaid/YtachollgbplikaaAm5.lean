/- The abstract machine, fifth part: operations that make a block, operations that read. -/
import Derived.Test.YtachollgbplikaaAm4
set_option linter.unusedVariables false
set_option linter.unusedSimpArgs false
namespace Go.Proofs.Ytachollgbplikaa

/-- One block more; all else is as it was. -/
structure Made (w w' : World) (ob : Obj) : Prop where
  size : w'.heap.size = w.heap.size + 1
  old : ∀ j, j < w.heap.size → w'.heap[j]? = w.heap[j]?
  new : w'.heap[w.heap.size]? = some ob
  os : w'.os = w.os
  tape : w'.tape = w.tape
  output : w'.output = w.output

theorem Made.alloc (w : World) (ob : Obj) : Made w (w.alloc ob) ob := by
  refine ⟨by simp, fun j hj => Below.heap_alloc' w ob j hj, by simp [World.alloc, -World.alloc_eq], rfl, rfl, rfl⟩
 where
  Below.heap_alloc' (w : World) (o : Obj) (k : Nat) (h : k < w.heap.size) : (w.alloc o).heap[k]? = w.heap[k]? := by
    show (w.heap.push o)[k]? = _
    rw [Array.getElem?_push, if_neg (by omega)]

theorem Made.drew_alloc (w : World) (ob : Obj) : Made w (w.drew.alloc ob) ob :=
  let h := Made.alloc w.drew ob
  ⟨h.size, h.old, h.new, h.os, h.tape, h.output⟩

def KOk (P : Program) (o : Oper) (k : KOp) : Prop :=
  ∀ (ι : Inj) (e : Env) (a : Act) (w : World) (blk : Blk) (mk : Mk), VRL ι e a.tmps.toList → aK k e = some (blk, mk) →
    ∃ v' w' ob N, (execOp a.eval o).run P w = .ok (.value v') w' ∧ blk.own = true ∧ Made w w' ob ∧
      ∀ id ι', ι.Le ι' → ι' id = some ⟨w.heap.size, 0, N⟩ → BR ι' blk ⟨w.heap.size, 0, N⟩ ob ∧ VR ι' (mk.val id) v'

def LOk (P : Program) (o : Oper) (l : LOp) : Prop :=
  ∀ (ι : Inj) (M : Heap) (e : Env) (a : Act) (w : World) (v : AV), R ι M w → VRL ι e a.tmps.toList → aL l e M = some v → ∃ v', (execOp a.eval o).run P w = .ok (.value v') w ∧ VR ι v v'

theorem BR.new {ι : Inj} {cs : List AV} {l : Array Value} {slack : Bool} {e : TypeId} {fz : Nat × Nat} {j : Nat} (h : ∃ r, VRL ι cs (l.toList.take r) ∧ r ≤ l.size ∧ (slack = false → r = l.size)) (hc : ∀ c, c ∈ cs → c.isCell = true) (hf : fz.1 = fz.2 ∨ l.size ≤ fz.1) :
    BR ι (.cells cs false slack) ⟨j, 0, l.size⟩ (.cells l e fz) := by
  obtain ⟨r, hr, hle, hs⟩ := h
  have hlen := hr.length
  simp at hlen
  refine ⟨l, e, fz, rfl, by simp, by simp only; omega, fun h => by simp only; rw [hlen, hs h]; simp, fun i a hi => ?_, fun _ => hf⟩
  obtain ⟨v, hv, hr'⟩ := hr.get i a hi
  refine ⟨v, ?_, hc a (List.mem_of_getElem? hi), hr'⟩
  simp only [List.getElem?_take] at hv
  split at hv
  case isFalse => cases hv
  simpa using hv

theorem BR.new_all {ι : Inj} {cs : List AV} {l : Array Value} {e : TypeId} {j : Nat} (h : VRL ι cs l.toList) (hc : ∀ c, c ∈ cs → c.isCell = true) : BR ι (.cells cs false false) ⟨j, 0, l.size⟩ (.cells l e (0, 0)) :=
  BR.new ⟨l.size, by rw [List.take_of_length_le (by simp)]; exact h, Nat.le_refl _, fun _ => rfl⟩ hc (.inl rfl)

theorem reps_length : ∀ (n : Nat) (z : List AV), (reps n z).length = n * z.length
  | 0, z => by simp [reps]
  | n + 1, z => by simp [reps, reps_length n z, Nat.add_mul, Nat.add_comm]

theorem reps_get (z : List AV) : ∀ (n i : Nat), i < n * z.length → (reps n z)[i]? = z[i % z.length]?
  | 0, i, h => by simp at h
  | n + 1, i, h => by
    simp only [reps]
    rw [List.getElem?_append]
    split
    · rename_i hi
      rw [Nat.mod_eq_of_lt hi]
    · rename_i hi
      rw [reps_get z n (i - z.length) (by rw [Nat.add_mul] at h; omega)]
      congr 1
      have : i = (i - z.length) + z.length := by omega
      rw [this, Nat.add_mod_right]
      simp

theorem reps_mem {n : Nat} {z : List AV} {c : AV} (h : c ∈ reps n z) : c ∈ z := by
  induction n with
  | zero => simp [reps] at h
  | succ n ih =>
    simp only [reps, List.mem_append] at h
    exact h.elim id ih

theorem reps_VR {ι : Inj} {z : List AV} {v : Array Value} (h : VRL ι z v.toList) (n : Nat) : VRL ι (reps n z) (madeCells v (n * v.size)).toList := by
  have hl : z.length = v.size := by have := h.length; simpa using this
  refine VRL.of_get (by simp [reps_length, madeCells, hl]) fun i a x ha hx => ?_
  have hi : i < n * z.length := by
    have := (List.getElem?_eq_some_iff.1 ha).1
    rwa [reps_length] at this
  rw [reps_get z n i hi] at ha
  obtain ⟨y, hy, hr⟩ := h.get _ a ha
  simp only [madeCells, Array.toList_map, Array.toList_range, List.getElem?_map, List.getElem?_range (show i < n * v.size from by rw [← hl]; exact hi), Option.map_some, Option.some.injEq] at hx
  subst hx
  rw [hl, Array.getElem?_toList] at hy
  rw [getElem!_def, hy]
  exact hr

theorem KOk.alloc {P : Program} {o : Oper} {t : TypeId} {zero : List AV} (ho : o.op = .alloc t) (hz : zeroOf P t = some zero) : KOk P o (.alloc zero) := by
  intro ι e a w blk mk he h
  simp only [aK, Option.some.injEq, Prod.mk.injEq] at h
  obtain ⟨rfl, rfl⟩ := h
  obtain ⟨z, hz1, hz2, hz3⟩ := run_zero (P := P) hz w
  refine ⟨.pointer (some ⟨w.heap.size, 0, none⟩), w.alloc (.cells z.cells t), _, z.cells.size, ?_, rfl, Made.alloc _ _, fun id ι' hle hid => ⟨BR.new_all (hz2 ι') hz3, ?_⟩⟩
  · simp only [execOp, ho]
    simp [Instr.alloc, hz1, newVar, newRow]
  · simp only [Mk.val, VR]
    exact ⟨_, hid, rfl⟩

theorem KOk.box {P : Program} {o : Oper} {t : TypeId} {x : Operand} {ax : AX} (ho : o.op = .box t x) (hx : cX x = some ax) : KOk P o (.box ax) := by
  intro ι e a w blk mk he h
  have h1 := cX_VR hx he
  simp only [aK] at h
  obtain ⟨cs, hcs, h⟩ := Option.map_eq_some_iff.1 h
  simp only [Prod.mk.injEq] at h
  obtain ⟨rfl, rfl⟩ := h
  obtain ⟨g1, g2⟩ := cells?_VR hcs h1
  refine ⟨.pointer (some ⟨w.heap.size, 0, none⟩), w.alloc (.cells (a.eval x).cells t), _, (a.eval x).cells.size, ?_, rfl, Made.alloc _ _, fun id ι' hle hid => ⟨BR.new_all (g1.mono hle) g2, ?_⟩⟩
  · simp only [execOp, ho]
    simp [Instr.box, newVar, newRow]
  · simp only [Mk.val, VR]
    exact ⟨_, hid, rfl⟩

theorem KOk.buildSlice {P : Program} {o : Oper} {t elem : TypeId} {len n : Nat} {parts : Array (Nat × Operand)} {zero : List AV} {al : List (Nat × AX)} (ho : o.op = .buildSlice t len parts) (ht : P.underlying t = some (.slice elem)) (hn : szOf P elem = some n) (hn0 : 0 < n)
    (hlen : len * n ≤ 16777216) (hz : zeroOf P elem = some zero) (hzl : zero.length = n) (hp : cParts (fun i => some (i * n, n)) parts.toList = some (al.map fun p => (p.1 * n, n, p.2))) : KOk P o (.buildSlice n len zero al) := by
  intro ι e a w blk mk he h
  simp only [aK] at h
  obtain ⟨cs, hcs, h⟩ := Option.map_eq_some_iff.1 h
  simp only [Prod.mk.injEq] at h
  obtain ⟨rfl, rfl⟩ := h
  obtain ⟨g1, g2⟩ := cParts_VR he hp
  obtain ⟨z, hz1, hz2, hz3⟩ := run_zero (P := P) hz w
  have hzs : z.cells.size = n := by have := (hz2 ι).length; simp at this; omega
  have hbase : VRL ι (reps len zero) (madeCells (if len * n = 0 then #[] else z.cells) (len * n)).toList := by
    split
    · rename_i h0
      have : len = 0 := by
        rcases Nat.mul_eq_zero.1 h0 with h | h
        · exact h
        · omega
      subst this
      simp [reps, madeCells, VRL, Array.range_zero']
    · have := reps_VR (hz2 ι) len
      rwa [hzs] at this
  obtain ⟨cells', hf, hr, hc⟩ := fill_VR (ι := ι) (fun i => some (i * n, n)) (parts.toList.map fun p => (p.1, a.eval p.2)) (al.map fun p => (p.1 * n, n, p.2.ev e)) (madeCells (if len * n = 0 then #[] else z.cells) (len * n)) _ cs hbase (fun c hc => hz3 c (reps_mem hc)) (by simpa using g1) (fun i p q h1 h2 => by
    simp only [List.getElem?_map, Option.map_eq_some_iff] at h1 h2
    obtain ⟨p', hp', rfl⟩ := h1
    obtain ⟨q', hq', rfl⟩ := h2
    exact g2 i (p'.1 * n, n, p'.2) q' (by simp [hp']) hq') hcs
  have hsz : cells'.size = len * n := by
    have h1 := hr.length
    have h2 := hbase.length
    have h3 := aFill_length hcs
    simp only [Array.length_toList] at h1 h2
    rw [size_madeCells] at h2
    omega
  refine ⟨.slice (some ⟨w.heap.size, 0, none⟩) len len, w.alloc (.cells cells' elem), _, cells'.size, ?_, rfl, Made.alloc _ _, fun id ι' hle hid => ⟨BR.new_all (hr.mono hle) hc, ?_⟩⟩
  · simp only [execOp, ho]
    have hng : ¬ (len * n > 2 ^ 24) := by omega
    by_cases h0 : len * n = 0
    · rw [if_pos h0, h0, show madeCells (#[] : Array Value) 0 = #[] from by simp [madeCells, Array.range_zero']] at hf
      simp [Instr.buildSlice, run_underlying ht, run_sz hn, hng, h0, newRow, hf, Array.range_zero']
    · rw [if_neg h0] at hf
      simp only [madeCells] at hf
      simp [Instr.buildSlice, run_underlying ht, run_sz hn, hng, h0, newRow, hf, hz1]
  · simp only [Mk.val, VR]
    exact ⟨_, _, _, hid, rfl, .inr rfl, .inr rfl, .inr rfl, Nat.le_refl _, Nat.le_refl _, fun _ => rfl, by simp [hsz], hn0⟩
 where
  aFill_length : ∀ {cs : List AV} {parts : List (Nat × Nat × AV)} {cs' : List AV}, aFill cs parts = some cs' → cs'.length = cs.length
  | cs, [], cs', h => by simp only [aFill, Option.some.injEq] at h; rw [h]
  | cs, (off, n, v) :: r, cs', h => by
    simp only [aFill] at h
    split at h
    case h_2 => cases h
    split at h
    case isFalse => cases h
    rename_i l _ hc
    rw [aFill_length h]
    simp
    omega

theorem KOk.makeSlice {P : Program} {o : Oper} {t elem : TypeId} {i : TypeInfo} {l c : Operand} {zero : List AV} {al ac : AX} (ho : o.op = .makeSlice t l c) (ht : P.underlying t = some (.slice elem)) (hi : P.info? elem = some i) (hn0 : 0 < i.size)
    (hz : zeroOf P elem = some zero) (hzl : zero.length = i.size) (hl : cX l = some al) (hc : cX c = some ac) : KOk P o (.makeSlice i.size i.bytes zero al ac) := by
  intro ι e a w blk mk he h
  have h1 := cX_VR hl he
  have h2 := cX_VR hc he
  simp only [aK] at h
  unfold aMakeSlice at h
  split at h
  case h_2 => cases h
  rename_i kl lv kc cv hc1 hc2
  rw [hc1] at h1
  rw [hc2] at h2
  simp only [VR] at h1 h2
  split at h
  case isFalse => cases h
  rename_i hcond
  obtain ⟨c1, c2, c3, c4⟩ := hcond
  simp only [Option.some.injEq, Prod.mk.injEq] at h
  obtain ⟨rfl, rfl⟩ := h
  have hz' := hz
  unfold zeroOf at hz'
  split at hz'
  case h_2 => cases hz'
  rename_i z hz2
  obtain ⟨it, hit, hz3⟩ := Option.bind_eq_some_iff.1 hz2
  rw [hi] at hit
  obtain rfl := Option.some.inj hit
  have hzv := fun ι => ofScalars_VR ι hz'
  have hzs : z.cells.size = i.size := by have := (hzv ι).1.length; simp at this; omega
  have hb : (i.bytes : Int) * cv ≤ 281474976710656 := by
    have : cv = (cv.toNat : Int) := by omega
    rw [this, ← Int.natCast_mul]
    omega
  have hrun := run_make (P := P) w t elem i z ht hi hz3 kl kc lv cv c1 c2 hb (by omega)
  refine ⟨.slice (some ⟨w.heap.size, 0, none⟩) lv.toNat cv.toNat, w.alloc (.cells (madeCells z.cells (cv.toNat * i.size)) elem), _, (madeCells z.cells (cv.toNat * i.size)).size, ?_, rfl, Made.alloc _ _, fun id ι' hle hid => ⟨BR.new_all ?_ (fun c hc => (hzv ι).2 c (reps_mem hc)), ?_⟩⟩
  · simp only [execOp, ho, h1, h2]
    simp [hrun]
  · have := reps_VR (hzv ι').1 cv.toNat
    rwa [hzs] at this
  · simp only [Mk.val, VR]
    exact ⟨_, _, _, hid, rfl, .inr rfl, .inr rfl, .inr rfl, by omega, Nat.le_refl _, fun _ => rfl, by simp [size_madeCells], hn0⟩

theorem KOk.strBytes {P : Program} {o : Oper} {s d elem : TypeId} {x : Operand} {ax : AX} (ho : o.op = .convert s d x) (hs : P.underlying s = some .string) (hd : P.underlying d = some (.slice elem)) (he8 : P.underlying elem = some (.int .u8)) (hx : cX x = some ax) : KOk P o (.strBytes ax) := by
  intro ι e a w blk mk he h
  have h1 := cX_VR hx he
  simp only [aK] at h
  split at h
  case h_2 => cases h
  rename_i str hc
  rw [hc] at h1
  simp only [VR] at h1
  obtain ⟨b, h1, rfl⟩ := h1
  split at h
  case isFalse => cases h
  rename_i hlen
  simp only [Option.some.injEq, Prod.mk.injEq] at h
  obtain ⟨rfl, rfl⟩ := h
  have hbl : b.data.toList.length = b.size := by simp
  have hcap : b.size ≤ grownCap w b.size 0 elem := by
    simp only [grownCap, Question.cut]
    omega
  have hsz : (Lib.bytesCells w elem b).size = grownCap w b.size 0 elem := by
    simp only [Lib.bytesCells, Array.size_append, Array.size_map, Array.size_replicate]
    have : b.data.size = b.size := rfl
    omega
  refine ⟨.slice (some ⟨w.heap.size, 0, none⟩) b.size (grownCap w b.size 0 elem), Lib.bytesWorld w elem b, _, (Lib.bytesCells w elem b).size, ?_, rfl, ⟨Lib.bytesWorld_size w elem b, Lib.bytesWorld_at_old w elem b, Lib.bytesWorld_at_new w elem b, rfl, rfl, rfl⟩, fun id ι' hle hid => ⟨BR.new ⟨b.size, ?_, by omega, fun h => by cases h⟩ ?_ (.inr (Nat.le_refl _)), ?_⟩⟩
  · simp only [execOp, ho, h1]
    simp [Lib.run_convert_string_bytes w s d elem b hs hd he8]
  · have e : (Lib.bytesCells w elem b).toList.take b.size = b.data.toList.map fun c => Value.int .u8 c.toNat := by
      simp only [Lib.bytesCells, Array.toList_append, Array.toList_map]
      rw [List.take_append_of_le_length (by simp), List.take_of_length_le (by simp)]
    rw [e]
    refine VRL.of_get (by simp) fun i x y hx hy => ?_
    simp only [List.getElem?_map, Option.map_eq_some_iff] at hx hy
    obtain ⟨u, hu, rfl⟩ := hx
    obtain ⟨u', hu', rfl⟩ := hy
    rw [hu] at hu'
    obtain rfl := Option.some.inj hu'
    simp [VR]
  · intro c hc
    obtain ⟨u, _, rfl⟩ := List.mem_map.1 hc
    rfl
  · simp only [Mk.val, VR]
    exact ⟨_, _, _, hid, by rw [hbl], .inr rfl, .inr rfl, .inr rfl, Nat.le_refl _, by omega, (fun h => by cases h), by simp [hsz], by omega⟩

theorem KOk.makeMap {P : Program} {o : Oper} {t : TypeId} (ho : o.op = .makeMap t none) : KOk P o .makeMap := by
  intro ι e a w blk mk he h
  simp only [aK, Option.some.injEq, Prod.mk.injEq] at h
  obtain ⟨rfl, rfl⟩ := h
  refine ⟨.map (some w.heap.size), w.alloc (.map #[] 0), _, 0, ?_, rfl, Made.alloc _ _, fun id ι' hle hid => ⟨⟨#[], 0, rfl, by simp [ERL]⟩, ?_⟩⟩
  · simp only [execOp, ho]
    simp [Instr.makeMap]
  · simp only [Mk.val, VR]
    exact ⟨_, hid, rfl⟩

/-! ### What reads -/

theorem loadCells_run {P : Program} {ι : Inj} {M : Heap} {w : World} (r : R ι M w) {b o n : Nat} {cs : List AV} (h : M.read b o n = some cs) : ∃ l vs, ι b = some l ∧ (loadCells ⟨l.j, l.d + o, none⟩ n).run P w = .ok vs w ∧ VRL ι cs vs.toList ∧ ∀ a, a ∈ cs → a.isCell = true := by
  obtain ⟨hlen, hc, l, vs, hl, hr, hcell⟩ := r.read h
  refine ⟨l, vs.toArray, hl, ?_, by simpa using hr, hc⟩
  have hvl : vs.length = n := by rw [← hr.length, hlen]
  rw [← hvl]
  exact run_loadCells_list w _ vs fun j v hv => by rw [add_none]; exact hcell j v hv

theorem loadVar_run {P : Program} {ι : Inj} {M : Heap} {w : World} (r : R ι M w) {t : TypeId} {g : Bool} {n : Nat} (hg : aggOf P t = some g) (hn : szOf P t = some n) {p v : AV} {pv : Value} (hp : VR ι p pv) (h : aLoad g n p M = some v) :
    ∃ ad v', pv = .pointer (some ad) ∧ (loadVar t ad).run P w = .ok v' w ∧ VR ι v v' := by
  unfold aLoad at h
  split at h
  case h_2 => cases h
  rename_i b o
  simp only [VR] at hp
  obtain ⟨l, hl, rfl⟩ := hp
  cases g with
  | true =>
    simp only [if_true] at h
    obtain ⟨cs, hcs, rfl⟩ := Option.map_eq_some_iff.1 h
    obtain ⟨l', vs, hl', hrun, hr, _⟩ := loadCells_run (P := P) r hcs
    rw [hl] at hl'
    obtain rfl := Option.some.inj hl'
    refine ⟨_, .agg vs, rfl, ?_, by simp only [VR]; exact ⟨_, rfl, hr⟩⟩
    simp [loadVar, run_agg hg, run_sz hn, hrun]
  | false =>
    simp only [Bool.false_eq_true, if_false] at h
    split at h
    case h_2 => cases h
    rename_i c ro sl hb
    obtain ⟨l', ob, hl', hob, cs, elem, fz, rfl, _, _, _, h5, _⟩ := r.blk b _ hb
    rw [hl] at hl'
    obtain rfl := Option.some.inj hl'
    obtain ⟨v', hv', _, hr⟩ := h5 o v h
    refine ⟨_, v', rfl, ?_, hr⟩
    simp [loadVar, run_agg hg, cell_of hob hv']

theorem LOk.load {P : Program} {o : Oper} {t : TypeId} {g : Bool} {n : Nat} {x : Operand} {ax : AX} (ho : o.op = .load t x) (hg : aggOf P t = some g) (hn : szOf P t = some n) (hx : cX x = some ax) : LOk P o (.load g n ax) := by
  intro ι M e a w v r he h
  simp only [aL] at h
  obtain ⟨ad, v', h1, h2, h3⟩ := loadVar_run (P := P) r hg hn (cX_VR hx he) h
  refine ⟨v', ?_, h3⟩
  simp only [execOp, ho, h1]
  simp [Instr.loadAt, Instr.sureAddr, h2]

theorem toBytes_VR {ι : Inj} : ∀ {cs : List AV} {vs : List Value} {bs : List UInt8}, toBytes cs = some bs → VRL ι cs vs → ∃ ns : List Int, vs = ns.map (Value.int .u8) ∧ bs = ns.map fun n => UInt8.ofNat n.toNat
  | [], [], bs, h, _ => by
    simp only [toBytes, Option.some.injEq] at h
    subst h
    exact ⟨[], rfl, rfl⟩
  | [], _ :: _, _, _, h => by simp [VRL] at h
  | a :: cs, [], _, _, h => by simp [VRL] at h
  | a :: cs, v :: vs, bs, h, hr => by
    simp only [VRL] at hr
    cases a with
    | int k n =>
      cases k with
      | u8 =>
        simp only [toBytes] at h
        obtain ⟨bs', hb, rfl⟩ := Option.map_eq_some_iff.1 h
        obtain ⟨ns, rfl, rfl⟩ := toBytes_VR hb hr.2
        have h1 := hr.1
        simp only [VR] at h1
        subst h1
        exact ⟨n :: ns, rfl, rfl⟩
      | _ => simp [toBytes] at h
    | _ => simp [toBytes] at h

theorem push_foldl (ns : List Int) : ∀ s : ByteArray, (ns.foldl (fun r n => r.push (UInt8.ofNat n.toNat)) s).data.toList = s.data.toList ++ ns.map fun n => UInt8.ofNat n.toNat := by
  induction ns with
  | nil => intro s; simp
  | cons n ns ih =>
    intro s
    rw [List.foldl_cons, ih]
    simp [ByteArray.push]

theorem LOk.bytesStr {P : Program} {o : Oper} {s d elem : TypeId} {x : Operand} {ax : AX} (ho : o.op = .convert s d x) (hs : P.underlying s = some (.slice elem)) (he8 : P.underlying elem = some (.int .u8)) (hd : P.underlying d = some .string) (hx : cX x = some ax) : LOk P o (.bytesStr ax) := by
  intro ι M e a w v r he h
  have h1 := cX_VR hx he
  simp only [aL] at h
  unfold aBytesStr at h
  split at h
  case h_3 => cases h
  · rename_i hc
    obtain rfl := Option.some.inj h
    rw [hc] at h1
    simp only [VR] at h1
    obtain ⟨h1, _⟩ := h1
    refine ⟨.string .empty, ?_, ?_⟩
    · simp only [execOp, ho, h1]
      simp [run_convert_bytes_string w s d elem none 0 0 hs he8 hd, Conv.bytesToString]
    · simp only [VR]
      exact ⟨_, rfl, rfl⟩
  · rename_i b off len cap ex hc
    rw [hc] at h1
    split at h
    · rename_i h0
      subst h0
      obtain rfl := Option.some.inj h
      simp only [VR] at h1
      obtain ⟨L, ad, cap', e1, e2, e3, e4, e5, e6, e7, e8, e9, e10⟩ := h1
      refine ⟨.string .empty, ?_, by simp only [VR]; exact ⟨_, rfl, rfl⟩⟩
      simp only [execOp, ho, e2]
      simp [run_convert_bytes_string w s d elem (some ad) 0 cap' hs he8 hd, Conv.bytesToString, loadCells, loadCellsFrom]
    rename_i hlen0
    obtain ⟨bs, hbs, rfl⟩ := Option.map_eq_some_iff.1 h
    obtain ⟨cs, hcs, hbs⟩ := Option.bind_eq_some_iff.1 hbs
    simp only [VR] at h1
    obtain ⟨L, ad, cap', e1, e2, e3, e4, e5, e6, e7, e8, e9, e10⟩ := h1
    obtain ⟨l', vs, hl', hrun, hr, _⟩ := loadCells_run (P := P) r hcs
    rw [e1] at hl'
    obtain rfl := Option.some.inj hl'
    obtain ⟨ns, hns, rfl⟩ := toBytes_VR hbs hr
    have hvs : vs = (ns.map (Value.int .u8)).toArray := by rw [← hns]
    subst hvs
    have hload : (loadCells ad len).run P w = .ok (ns.map (Value.int .u8)).toArray w := by
      rcases Nat.eq_zero_or_pos cap' with h0 | hpos
      · obtain rfl : len = 0 := by omega
        have : ns = [] := by
          have h1 := (r.read hcs).1
          have h2 := hr.length
          simp at h2
          cases ns with
          | nil => rfl
          | cons _ _ => simp at h2; omega
        subst this
        simp [loadCells, loadCellsFrom]
      · replace e3 := e3.resolve_left (by omega)
        replace e4 := e4.resolve_left (by omega)
        have h0 := e5.resolve_left (by omega)
        have : ad = ⟨L.j, L.d + off, none⟩ := by
          obtain ⟨q1, q2, q3⟩ := ad
          simp only at e3 e4 h0
          subst e3 e4 h0
          rfl
        rw [this]
        exact hrun
    refine ⟨.string (ns.foldl (fun r n => r.push (UInt8.ofNat n.toNat)) ByteArray.empty), ?_, ?_⟩
    · simp only [execOp, ho, e2]
      simp [run_convert_bytes_string w s d elem (some ad) len cap' hs he8 hd, run_bytesToString w ad len cap' ns hload]
    · simp only [VR]
      refine ⟨_, rfl, ?_⟩
      rw [push_foldl]
      rfl

end Go.Proofs.Ytachollgbplikaa
