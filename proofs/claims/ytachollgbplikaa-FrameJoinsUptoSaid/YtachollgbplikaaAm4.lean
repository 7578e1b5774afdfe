/- The abstract machine, fourth part: pointers and slices held against nil, structs built, what makes a block, what reads. -/
import Derived.Test.YtachollgbplikaaAm3
import Derived.Lib.ConvBytes
set_option linter.unusedVariables false
set_option linter.unusedSimpArgs false
namespace Go.Proofs.Ytachollgbplikaa

theorem eqP_run {P : Program} {t elem : TypeId} {n : Nat} (ht : P.underlying t = some (.pointer elem)) (hn : szOf P elem = some (n + 1)) {ι : Inj} {p q : AV} {v v' : Value} (h1 : VR ι p v) (h2 : VR ι q v') {r : Bool} (hr : aEqP p q = some r) (d : Nat) (w : World) :
    (∃ p, v = .pointer p) ∧ (Op.equalIn (d + 1) t v v').run P w = .ok r w := by
  unfold aEqP at hr
  split at hr
  · rename_i b
    obtain rfl := Option.some.inj hr
    simp only [VR] at h1
    subst h1
    cases b with
    | none => simp only [VR] at h2; subst h2; exact ⟨⟨_, rfl⟩, by simp [Op.equalIn, run_underlying ht]⟩
    | some b => obtain ⟨b, o⟩ := b; simp only [VR] at h2; obtain ⟨l, _, rfl⟩ := h2; exact ⟨⟨_, rfl⟩, by simp [Op.equalIn, run_underlying ht]⟩
  · rename_i b
    obtain rfl := Option.some.inj hr
    obtain ⟨b, o⟩ := b
    simp only [VR] at h1 h2
    obtain ⟨l, _, rfl⟩ := h1
    subst h2
    exact ⟨⟨_, rfl⟩, by simp [Op.equalIn, run_underlying ht]⟩
  · rename_i b c
    obtain ⟨b, o⟩ := b
    obtain ⟨c, o'⟩ := c
    split at hr
    case isFalse => cases hr
    rename_i hbc
    simp only at hbc
    subst hbc
    obtain rfl := Option.some.inj hr
    simp only [VR] at h1 h2
    obtain ⟨l, hl, rfl⟩ := h1
    obtain ⟨l', hl', rfl⟩ := h2
    rw [hl] at hl'
    obtain rfl := Option.some.inj hl'
    refine ⟨⟨_, rfl⟩, ?_⟩
    have e : ((⟨l.j, l.d + o, none⟩ : Addr) == ⟨l.j, l.d + o', none⟩) = (o == o') := by
      rw [Bool.eq_iff_iff]
      simp
    simp only [Op.equalIn, Sem.run_bind, run_underlying ht, Result.andThen_ok, run_sz hn, ne_eq, Nat.add_eq_zero_iff, Nat.succ_ne_self, and_false, not_false_eq_true, if_true]
    simp [sameAddr, e]
  · cases hr

theorem POk.eqP {P : Program} {o : Oper} {neg : Bool} {t u elem : TypeId} {n : Nat} {x y : Operand} {ax ay : AX} (ho : o.op = .binOp (if neg then .neq else .eql) t x y u) (ht : P.underlying t = some (.pointer elem)) (hn : szOf P elem = some (n + 1))
    (hx : cX x = some ax) (hy : cX y = some ay) : POk P o (.eqP neg ax ay) := by
  intro ι e a w v he hv
  have h1 := cX_VR hx he
  have h2 := cX_VR hy he
  simp only [aP] at hv
  obtain ⟨r, hr, rfl⟩ := Option.map_eq_some_iff.1 hv
  refine ⟨.bool (if neg then !r else r), ?_, by simp [VR]⟩
  obtain ⟨⟨p, hp⟩, key⟩ := eqP_run (P := P) ht hn h1 h2 hr 9999 w
  cases neg
  · simp only [Bool.false_eq_true, if_false] at ho ⊢
    simp only [execOp, ho]
    rw [hp] at key ⊢
    simp [eqGuard_at_pointer, binOp, Op.equal, Op.maxDepth, key]
  · simp only [if_true] at ho ⊢
    simp only [execOp, ho]
    rw [hp] at key ⊢
    simp [eqGuard_at_pointer, binOp, Op.equal, Op.maxDepth, key]

theorem eqN_run {P : Program} {t elem : TypeId} (ht : P.underlying t = some (.slice elem)) {ι : Inj} {p q : AV} {v v' : Value} (h1 : VR ι p v) (h2 : VR ι q v') {r : Bool} (hr : aEqN p q = some r) (d : Nat) (w : World) :
    (∃ p n c, v = .slice p n c) ∧ (Op.equalIn (d + 1) t v v').run P w = .ok r w := by
  unfold aEqN at hr
  split at hr
  · rename_i b _ _ _ _
    obtain rfl := Option.some.inj hr
    simp only [VR] at h1
    obtain ⟨rfl, _⟩ := h1
    obtain ⟨ad, c, rfl, _, _, _, hnn⟩ := slice_form h2
    refine ⟨⟨_, _, _, rfl⟩, ?_⟩
    have : ad.isNone = b.isNone := by cases ad <;> cases b <;> simp_all
    simp [Op.equalIn, run_underlying ht, this]
  · rename_i b _ _ _ _ _ _ _ _
    obtain rfl := Option.some.inj hr
    simp only [VR] at h2
    obtain ⟨rfl, _⟩ := h2
    obtain ⟨ad, c, rfl, _, _, _, hnn⟩ := slice_form h1
    refine ⟨⟨_, _, _, rfl⟩, ?_⟩
    cases ad with
    | none => simp at hnn
    | some ad => simp [Op.equalIn, run_underlying ht]
  · cases hr

theorem POk.eqN {P : Program} {o : Oper} {neg : Bool} {t u elem : TypeId} {x y : Operand} {ax ay : AX} (ho : o.op = .binOp (if neg then .neq else .eql) t x y u) (ht : P.underlying t = some (.slice elem))
    (hx : cX x = some ax) (hy : cX y = some ay) : POk P o (.eqN neg ax ay) := by
  intro ι e a w v he hv
  have h1 := cX_VR hx he
  have h2 := cX_VR hy he
  simp only [aP] at hv
  obtain ⟨r, hr, rfl⟩ := Option.map_eq_some_iff.1 hv
  refine ⟨.bool (if neg then !r else r), ?_, by simp [VR]⟩
  obtain ⟨⟨p, n, c, hp⟩, key⟩ := eqN_run (P := P) ht h1 h2 hr 9999 w
  cases neg
  · simp only [Bool.false_eq_true, if_false] at ho ⊢
    simp only [execOp, ho]
    rw [hp] at key ⊢
    simp [eqGuard_at_slice, binOp, Op.equal, Op.maxDepth, key]
  · simp only [if_true] at ho ⊢
    simp only [execOp, ho]
    rw [hp] at key ⊢
    simp [eqGuard_at_slice, binOp, Op.equal, Op.maxDepth, key]

/-! ### Structs and arrays built -/

theorem foldl_seg : ∀ (l : List Value) (k off : Nat) (cells : Array Value), off + k + l.length ≤ cells.size →
    ((l.zipIdx k).foldl (fun cs (c, j) => cs.setIfInBounds (off + j) c) cells).toList = cells.toList.take (off + k) ++ l ++ cells.toList.drop (off + k + l.length)
  | [], k, off, cells, h => by simp
  | x :: l, k, off, cells, h => by
    simp only [List.zipIdx_cons, List.foldl_cons]
    have hl : (x :: l).length = l.length + 1 := rfl
    rw [foldl_seg l (k + 1) off _ (by simp; omega)]
    simp only [Array.toList_setIfInBounds, List.length_cons]
    have e1 : (cells.toList.set (off + k) x).take (off + (k + 1)) = cells.toList.take (off + k) ++ [x] := by
      rw [show off + (k + 1) = off + k + 1 from by omega, List.take_add_one]
      simp [List.take_set_of_le, show off + k < cells.size from by omega]
    have e2 : (cells.toList.set (off + k) x).drop (off + (k + 1) + l.length) = cells.toList.drop (off + k + (l.length + 1)) := by
      rw [List.drop_set_of_lt (by omega)]
      congr 1; omega
    rw [e1, e2]
    simp

theorem fill_VR {ι : Inj} (place : Nat → Option (Nat × Nat)) : ∀ (parts : List (Nat × Value)) (ap : List (Nat × Nat × AV)) (cells : Array Value) (cs cs' : List AV), VRL ι cs cells.toList → (∀ c, c ∈ cs → c.isCell = true) →
    ap.length = parts.length → (∀ (i : Nat) (p : Nat × Nat × AV) (q : Nat × Value), ap[i]? = some p → parts[i]? = some q → place q.1 = some (p.1, p.2.1) ∧ VR ι p.2.2 q.2) → aFill cs ap = some cs' →
    ∃ cells', Instr.fill place cells parts = some cells' ∧ VRL ι cs' cells'.toList ∧ (∀ c, c ∈ cs' → c.isCell = true)
  | [], [], cells, cs, cs', h, hc, _, _, ha => by
    simp only [aFill, Option.some.injEq] at ha
    subst ha
    exact ⟨cells, rfl, h, hc⟩
  | [], _ :: _, _, _, _, _, _, hl, _, _ => by simp at hl
  | _ :: _, [], _, _, _, _, _, hl, _, _ => by simp at hl
  | (i, v) :: parts, (off, n, a) :: ap, cells, cs, cs', h, hc, hl, hp, ha => by
    simp only [aFill] at ha
    split at ha
    case h_2 => cases ha
    rename_i l hcells
    split at ha
    case isFalse => cases ha
    rename_i hcond
    obtain ⟨hpl, hrel⟩ := hp 0 (off, n, a) (i, v) rfl rfl
    obtain ⟨hvc, hall⟩ := cells?_VR hcells hrel
    have hlen : v.cells.size = n := by have := hvc.length; simp at this; omega
    have hcl : cs.length = cells.size := by have := h.length; simpa using this
    simp only [Instr.fill]
    simp only at hpl
    rw [hpl]
    simp only
    rw [if_neg (by rw [hlen]; simp; omega)]
    have hseg : (v.cells.zipIdx.foldl (fun cs (c, j) => cs.setIfInBounds (off + j) c) cells).toList = cells.toList.take off ++ v.cells.toList ++ cells.toList.drop (off + n) := by
      have := foldl_seg v.cells.toList 0 off cells (by simp; omega)
      rw [← Array.foldl_toList, Array.toList_zipIdx]
      simpa [hlen] using this
    refine fill_VR place parts ap _ _ cs' ?_ ?_ (by simpa using hl) (fun j p q h1 h2 => hp (j + 1) p q (by simpa using h1) (by simpa using h2)) ha
    · rw [hseg]
      exact ((h.take off).append hvc).append (by have := h.drop (off + n); simpa [hcond.1] using this)
    · intro c hcm
      rcases List.mem_append.1 hcm with hcm | hcm
      · rcases List.mem_append.1 hcm with hcm | hcm
        · exact hc c (List.mem_of_mem_take hcm)
        · exact hall c hcm
      · exact hc c (List.mem_of_mem_drop hcm)

/-- The parts of a struct, an array, a slice's literal: place, size, operand. -/
def cParts (place : Nat → Option (Nat × Nat)) : List (Nat × Operand) → Option (List (Nat × Nat × AX))
  | [] => some []
  | (i, x) :: r => match place i, cX x, cParts place r with
    | some p, some ax, some l => some ((p.1, p.2, ax) :: l)
    | _, _, _ => none

theorem cParts_VR {place : Nat → Option (Nat × Nat)} {ι : Inj} {e : Env} {a : Act} (he : VRL ι e a.tmps.toList) : ∀ {l : List (Nat × Operand)} {al : List (Nat × Nat × AX)}, cParts place l = some al →
    al.length = l.length ∧ ∀ (i : Nat) (p : Nat × Nat × AX) (q : Nat × Operand), al[i]? = some p → l[i]? = some q → place q.1 = some (p.1, p.2.1) ∧ VR ι (p.2.2.ev e) (a.eval q.2)
  | [], al, h => by
    simp only [cParts, Option.some.injEq] at h
    subst h
    simp
  | (i, x) :: r, al, h => by
    simp only [cParts] at h
    split at h
    case h_2 => cases h
    rename_i p ax l h1 h2 h3
    obtain rfl := Option.some.inj h
    obtain ⟨g1, g2⟩ := cParts_VR he h3
    refine ⟨by simp [g1], fun j p' q hj hq => ?_⟩
    cases j with
    | zero =>
      simp at hj hq
      subst hj hq
      exact ⟨by simp [h1], cX_VR h2 he⟩
    | succ j => exact g2 j p' q (by simpa using hj) (by simpa using hq)

def placeOf (P : Program) (t : TypeId) : Nat → Option (Nat × Nat) :=
  match P.underlying t with
  | some (.array _ e) => fun i => (szOf P e).map fun n => (i * n, n)
  | some (.struct fs) => fun i => (fs[i]?).bind fun f => (szOf P f.type).map fun n => (f.offset, n)
  | _ => fun _ => none

def buildable (P : Program) (t : TypeId) : Bool :=
  match P.underlying t with
  | some (.array _ e) => (szOf P e).isSome
  | some (.struct fs) => fs.toList.all fun f => (szOf P f.type).isSome
  | _ => false

theorem places_all {P : Program} : ∀ (fs : List Field), (fs.all fun f => (szOf P f.type).isSome) = true →
    ∃ places : List (Nat × Nat), fs.mapM (fun (f : Field) => (P.info? f.type).map fun i => (f.offset, i.size)) = some places ∧ ∀ i : Nat, places[i]? = (fs[i]?).bind fun (f : Field) => (szOf P f.type).map fun n => (f.offset, n)
  | [], _ => ⟨[], by simp, by simp⟩
  | f :: fs, h => by
    simp only [List.all_cons, Bool.and_eq_true] at h
    obtain ⟨places, h1, h2⟩ := places_all fs h.2
    obtain ⟨n, hn⟩ := Option.isSome_iff_exists.1 h.1
    have hn' := hn
    unfold szOf at hn'
    obtain ⟨i, hi, rfl⟩ := Option.map_eq_some_iff.1 hn'
    refine ⟨(f.offset, i.size) :: places, by simp [List.mapM_cons, hi, h1], fun j => ?_⟩
    cases j with
    | zero => simp [hn]
    | succ j => simpa using h2 j

theorem POk.build {P : Program} {o : Oper} {t : TypeId} {parts : Array (Nat × Operand)} {zero : List AV} {al : List (Nat × Nat × AX)} (ho : o.op = .build t parts) (hb : buildable P t = true) (hz : zeroOf P t = some zero)
    (hp : cParts (placeOf P t) parts.toList = some al) : POk P o (.build zero al) := by
  intro ι e a w v he hv
  simp only [aP] at hv
  obtain ⟨cs, hcs, rfl⟩ := Option.map_eq_some_iff.1 hv
  obtain ⟨g1, g2⟩ := cParts_VR he hp
  have hz' := hz
  unfold zeroOf at hz'
  split at hz'
  case h_2 => cases hz'
  rename_i z hz2
  obtain ⟨it, hit, hz3⟩ := Option.bind_eq_some_iff.1 hz2
  have hzv := ofScalars_VR ι hz'
  obtain ⟨cells', hf, hr, _⟩ := fill_VR (ι := ι) (placeOf P t) (parts.toList.map fun p => (p.1, a.eval p.2)) (al.map fun p => (p.1, p.2.1, p.2.2.ev e)) z.cells zero cs hzv.1 hzv.2 (by simp [g1]) (fun i p q h1 h2 => by
    simp only [List.getElem?_map, Option.map_eq_some_iff] at h1 h2
    obtain ⟨p', hp', rfl⟩ := h1
    obtain ⟨q', hq', rfl⟩ := h2
    exact g2 i p' q' hp' hq') hcs
  refine ⟨.agg cells', ?_, by simp only [VR]; exact ⟨_, rfl, hr⟩⟩
  have hbuilt : P.built t (parts.map fun p => (p.1, a.eval p.2)).toList = some cells' := by
    unfold Program.built
    unfold buildable at hb
    unfold placeOf at hf
    cases hu : P.underlying t with
    | none => simp [hu] at hb
    | some ds =>
      cases ds with
      | array n el =>
        rw [hu] at hb hf
        simp only at hb hf
        obtain ⟨m, hm⟩ := Option.isSome_iff_exists.1 hb
        have hm' := hm
        unfold szOf at hm'
        obtain ⟨ie, hie, rfl⟩ := Option.map_eq_some_iff.1 hm'
        simp only [hm, Option.map_some] at hf
        simp only [hit, hz3, hie]
        simpa using hf
      | struct fs =>
        rw [hu] at hb hf
        simp only at hb hf
        obtain ⟨places, e1, e2⟩ := places_all fs.toList hb
        simp only [hit, hz3, e1]
        have : (fun (i : Nat) => places.toArray[i]?) = fun (i : Nat) => (fs[i]?).bind fun (f : Field) => (szOf P f.type).map fun n => (f.offset, n) := by
          funext i
          simpa using e2 i
        rw [this]
        simpa using hf
      | _ => simp [hu] at hb
  have := run_build (P := P) w t (parts.map fun p => (p.1, a.eval p.2)) cells' hbuilt
  simp only [execOp, ho]
  simp [this]

end Go.Proofs.Ytachollgbplikaa
