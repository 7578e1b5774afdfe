/- The abstract machine, third part: the pure operations: how one is read off the program, and that the model's comes to the same. -/
import Derived.Test.YtachollgbplikaaAm2
set_option linter.all false
set_option linter.unusedSimpArgs false
namespace Go.Proofs.Ytachollgbplikaa

/-! ### Reading the program -/

def ofScalar : Value → Option AV
  | .bool b => some (.bool b)
  | .int k n => some (.int k n)
  | .string s => some (.str s.data.toList)
  | .pointer none => some (.ptr none)
  | .slice none 0 0 => some (.slice none 1 0 0 true)
  | .map none => some (.map none)
  | .nilFunc => some .nilFunc
  | _ => none

def ofScalars : List Value → Option (List AV)
  | [] => some []
  | v :: r => match ofScalar v, ofScalars r with
    | some a, some l => some (a :: l)
    | _, _ => none

def ofVal (v : Value) : Option AV :=
  match v with
  | .agg cs => (ofScalars cs.toList).map .agg
  | v => ofScalar v

def cX : Operand → Option AX
  | .tmp t => some (.t t)
  | .const v => (ofVal v).map .c
  | .func f => some (.c (.func f []))
  | .global _ => none

def szOf (P : Program) (t : TypeId) : Option Nat := (P.info? t).map (·.size)
def aggOf (P : Program) (t : TypeId) : Option Bool :=
  match P.underlying t with
  | some (.struct _) | some (.array _ _) => some true
  | some _ => some false
  | none => none
def zeroOf (P : Program) (t : TypeId) : Option (List AV) :=
  match (P.info? t).bind (·.zero) with
  | some z => ofScalars z.cells.toList
  | none => none

theorem ofScalar_VR {v : Value} {a : AV} (h : ofScalar v = some a) (ι : Inj) : VR ι a v ∧ a.isCell = true := by
  unfold ofScalar at h
  split at h <;> first
    | (obtain rfl := Option.some.inj h; simp [VR, AV.isCell])
    | cases h

theorem ofScalars_VR (ι : Inj) : ∀ {vs : List Value} {l : List AV}, ofScalars vs = some l → VRL ι l vs ∧ ∀ a, a ∈ l → a.isCell = true
  | [], l, h => by
    simp only [ofScalars, Option.some.injEq] at h
    subst h
    simp [VRL]
  | v :: r, l, h => by
    simp only [ofScalars] at h
    split at h
    · rename_i a l' h1 h2
      obtain rfl := Option.some.inj h
      have a1 := ofScalar_VR h1 ι
      have a2 := ofScalars_VR ι h2
      refine ⟨by simp only [VRL]; exact ⟨a1.1, a2.1⟩, fun x hx => ?_⟩
      rcases List.mem_cons.1 hx with rfl | hx
      · exact a1.2
      · exact a2.2 x hx
    · cases h

theorem ofVal_VR {v : Value} {a : AV} (h : ofVal v = some a) (ι : Inj) : VR ι a v := by
  unfold ofVal at h
  split at h
  · rename_i cs
    obtain ⟨l, hl, rfl⟩ := Option.map_eq_some_iff.1 h
    simp only [VR]
    exact ⟨cs, rfl, (ofScalars_VR ι hl).1⟩
  · exact (ofScalar_VR h ι).1

theorem cX_VR {x : Operand} {ax : AX} (h : cX x = some ax) {ι : Inj} {e : Env} {a : Act} (he : VRL ι e a.tmps.toList) : VR ι (ax.ev e) (a.eval x) := by
  cases x with
  | tmp t =>
    simp only [cX, Option.some.injEq] at h
    subst h
    simp only [AX.ev, Act.eval]
    have := he.getD t undef
    rw [Array.getD_eq_getD_getElem?]
    rw [List.getD_eq_getElem?_getD (l := a.tmps.toList)] at this
    simpa using this
  | const v =>
    simp only [cX] at h
    obtain ⟨b, hb, rfl⟩ := Option.map_eq_some_iff.1 h
    exact ofVal_VR hb ι
  | func f =>
    simp only [cX, Option.some.injEq] at h
    subst h
    simp only [AX.ev, Act.eval, VR]
    exact ⟨#[], rfl, by simp [VRL]⟩
  | global g => simp [cX] at h

/-! ### Runs of what reads the program -/

theorem run_sz {P : Program} {t : TypeId} {n : Nat} (h : szOf P t = some n) (w : World) : (sizeOf t).run P w = .ok n w := by
  unfold szOf at h
  obtain ⟨i, hi, rfl⟩ := Option.map_eq_some_iff.1 h
  simp [sizeOf, typeInfo, hi]

theorem run_agg {P : Program} {t : TypeId} {b : Bool} (h : aggOf P t = some b) (w : World) : (isAgg t).run P w = .ok b w := by
  unfold aggOf at h
  cases hd : P.underlying t with
  | none => simp [hd] at h
  | some d =>
    rw [hd] at h
    cases d <;> (simp only [Option.some.injEq] at h; subst h; simp [isAgg, run_underlying hd])

theorem run_zero {P : Program} {t : TypeId} {l : List AV} (h : zeroOf P t = some l) (w : World) : ∃ z, (zeroValue t).run P w = .ok z w ∧ (∀ ι, VRL ι l z.cells.toList) ∧ ∀ a, a ∈ l → a.isCell = true := by
  unfold zeroOf at h
  split at h
  case h_2 => cases h
  rename_i z hz
  obtain ⟨i, hi, hz⟩ := Option.bind_eq_some_iff.1 hz
  refine ⟨z, by simp [zeroValue, typeInfo, hi, hz], fun ι => (ofScalars_VR ι h).1, (ofScalars_VR (fun _ => none) h).2⟩

theorem run_part {P : Program} {t : TypeId} {n off : Nat} {g : Bool} (hg : aggOf P t = some g) (hn : szOf P t = some n) {ι : Inj} {cs : List AV} {vs : Array Value} (h : VRL ι cs vs.toList) {a : AV} (ha : aPart g off n cs = some a) (w : World) :
    ∃ v, (part t vs off).run P w = .ok v w ∧ VR ι a v := by
  unfold aPart at ha
  cases g with
  | true =>
    simp only [if_true, Option.some.injEq] at ha
    subst ha
    refine ⟨.agg (vs.extract off (off + n)), by simp [part, run_agg hg, run_sz hn], ?_⟩
    simp only [VR]
    refine ⟨_, rfl, ?_⟩
    rw [Array.toList_extract, List.extract_eq_take_drop, Nat.add_sub_cancel_left]
    exact (h.drop off).take n
  | false =>
    simp only [Bool.false_eq_true, if_false] at ha
    obtain ⟨v, hv, hr⟩ := h.get off a ha
    refine ⟨v, ?_, hr⟩
    rw [Array.getElem?_toList] at hv
    simp [part, run_agg hg, hv]

/-! ### The pure operations: what it means that one is right -/

def POk (P : Program) (o : Oper) (p : POp) : Prop :=
  ∀ (ι : Inj) (e : Env) (a : Act) (w : World) (v : AV), VRL ι e a.tmps.toList → aP p e = some v → ∃ v', (execOp a.eval o).run P w = .ok (.value v') w ∧ VR ι v v'

theorem run_value {P : Program} {s : Sem Value} {w w' : World} {v : Value} (h : s.run P w = .ok v w') : ((do pure (Next.value (← s))) : Sem Next).run P w = .ok (.value v) w' := by
  simp [h]

theorem POk.move {P : Program} {o : Oper} {x : Operand} {ax : AX} (ho : o.op = .move x ∨ o.op = .assign x) (hx : cX x = some ax) : POk P o (.move ax) := by
  intro ι e a w v he hv
  simp only [aP, Option.some.injEq] at hv
  subst hv
  refine ⟨a.eval x, ?_, cX_VR hx he⟩
  rcases ho with ho | ho <;> simp [execOp, ho]

theorem POk.pick {P : Program} {o : Oper} {x y z : Operand} {ax ay az : AX} (ho : o.op = .pick x y z) (hx : cX x = some ax) (hy : cX y = some ay) (hz : cX z = some az) : POk P o (.pick ax ay az) := by
  intro ι e a w v he hv
  have h1 := cX_VR hx he
  simp only [aP] at hv
  split at hv
  · rename_i hc
    obtain rfl := Option.some.inj hv
    rw [hc] at h1
    simp only [VR] at h1
    exact ⟨a.eval y, by simp [execOp, ho, h1, asBool], cX_VR hy he⟩
  · rename_i hc
    obtain rfl := Option.some.inj hv
    rw [hc] at h1
    simp only [VR] at h1
    exact ⟨a.eval z, by simp [execOp, ho, h1, asBool], cX_VR hz he⟩
  · cases hv

theorem POk.nilCheck {P : Program} {o : Oper} {x : Operand} {ax : AX} (ho : o.op = .nilCheck x) (hx : cX x = some ax) : POk P o (.nilCheck ax) := by
  intro ι e a w v he hv
  have h1 := cX_VR hx he
  simp only [aP] at hv
  split at hv
  · rename_i p hc
    obtain rfl := Option.some.inj hv
    rw [hc] at h1
    refine ⟨a.eval x, ?_, h1⟩
    simp only [VR] at h1
    obtain ⟨l, _, h2⟩ := h1
    simp [execOp, ho, h2]
  · rename_i f cs hc
    obtain rfl := Option.some.inj hv
    rw [hc] at h1
    refine ⟨a.eval x, ?_, h1⟩
    simp only [VR] at h1
    obtain ⟨l, h2, _⟩ := h1
    simp [execOp, ho, h2]
  · cases hv

theorem run_aInts {P : Program} {op : BinOp} {k : IntKind} {x y : Int} {v : AV} (h : aInts op k x y = some v) (t : TypeId) (w : World) (ι : Inj) :
    ∃ v', (binOp op t (.int k x) (.int k y)).run P w = .ok v' w ∧ VR ι v v' := by
  cases op <;> simp only [aInts] at h
  case quo =>
    split at h
    · cases h
    rename_i hy
    obtain rfl := Option.some.inj h
    exact ⟨_, by simp only [binOp_quo, Op.intDiv, if_neg hy]; rfl, by simp [VR]⟩
  case rem =>
    split at h
    · cases h
    rename_i hy
    obtain rfl := Option.some.inj h
    exact ⟨_, by simp only [binOp_rem, Op.intDiv, if_neg hy]; rfl, by simp [VR]⟩
  case shl => cases h
  case shr => cases h
  all_goals
    obtain rfl := Option.some.inj h
    exact ⟨_, by simp [binOp, Op.intArith, Op.intBits, Op.intCmp]; try rfl, by simp [VR]⟩

theorem run_aStrs {P : Program} {op : BinOp} {x y : ByteArray} {v : AV} (h : aStrs op x.data.toList y.data.toList = some v) (t : TypeId) (w : World) (ι : Inj) :
    ∃ v', (binOp op t (.string x) (.string y)).run P w = .ok v' w ∧ VR ι v v' := by
  cases op <;> simp only [aStrs] at h
  case add =>
    split at h
    case isFalse => cases h
    rename_i hl
    obtain rfl := Option.some.inj h
    refine ⟨.string (x ++ y), ?_, ?_⟩
    · have h1 : ¬ (((x.size + y.size : Nat) : Int) > IntKind.i64.max) := by
        have e1 : x.data.toList.length = x.size := by simp
        have e2 : y.data.toList.length = y.size := by simp
        rw [e1, e2] at hl
        simp only [IntKind.max_i64]
        omega
      rw [binOp_string_add]
      simp only [Op.stringOp, if_neg h1]
      rfl
    · simp only [VR]
      exact ⟨_, rfl, by simp⟩
  all_goals
    first
      | (cases h; done)
      | (obtain rfl := Option.some.inj h
         exact ⟨_, by simp [binOp, Op.stringOp, ByteArray.toList_eq]; try rfl, by simp [VR]⟩)

theorem eqGuard_plain (op : BinOp) (t : TypeId) (x y : Operand) (a b : Value) (h : ¬ (∃ c d, a = .agg c ∧ b = .agg d) ∧ a ≠ .nilIface) : eqGuard op t x y a b = pure () := by
  unfold eqGuard
  cases op <;> simp <;> (split <;> simp_all)

theorem POk.bin {P : Program} {o : Oper} {op : BinOp} {t u : TypeId} {x y : Operand} {ax ay : AX} (ho : o.op = .binOp op t x y u) (hx : cX x = some ax) (hy : cX y = some ay) : POk P o (.bin op ax ay) := by
  intro ι e a w v he hv
  have h1 := cX_VR hx he
  have h2 := cX_VR hy he
  simp only [aP] at hv
  unfold aBin at hv
  split at hv
  · rename_i k n k' m hc1 hc2
    rw [hc1] at h1
    rw [hc2] at h2
    simp only [VR] at h1 h2
    have hg := eqGuard_plain op t x y (.int k n) (.int k' m) (by simp)
    have key : ∃ v', (binOp op t (.int k n) (.int k' m)).run P w = .ok v' w ∧ VR ι v v' := by
      cases op
      case shl =>
        simp only at hv
        split at hv
        · cases hv
        rename_i hb
        obtain rfl := Option.some.inj hv
        exact ⟨.int k (k.wrap (n * 2 ^ min m.toNat k.bits)), by rw [binOp_shl]; simp [Op.shift, hb], by simp [VR]⟩
      case shr =>
        simp only at hv
        split at hv
        · cases hv
        rename_i hb
        obtain rfl := Option.some.inj hv
        exact ⟨.int k (n.fdiv (2 ^ min m.toNat k.bits)), by rw [binOp_shr]; simp [Op.shift, hb], by simp [VR]⟩
      all_goals
        simp only at hv
        split at hv
        case isFalse => cases hv
        rename_i hk
        subst hk
        exact run_aInts hv t w ι
    obtain ⟨v', hr, hrel⟩ := key
    exact ⟨v', by simp only [execOp, ho, h1, h2, hg]; simp [hr], hrel⟩
  · rename_i s s' hc1 hc2
    rw [hc1] at h1
    rw [hc2] at h2
    simp only [VR] at h1 h2
    obtain ⟨b1, h1, rfl⟩ := h1
    obtain ⟨b2, h2, rfl⟩ := h2
    have hg := eqGuard_plain op t x y (.string b1) (.string b2) (by simp)
    obtain ⟨v', hr, hrel⟩ := run_aStrs (P := P) hv t w ι
    exact ⟨v', by simp only [execOp, ho, h1, h2, hg]; simp [hr], hrel⟩
  · cases hv

theorem POk.un {P : Program} {o : Oper} {op : UnOp} {t : TypeId} {x : Operand} {ax : AX} (ho : o.op = .unOp op t x) (hx : cX x = some ax) : POk P o (.un op ax) := by
  intro ι e a w v he hv
  have h1 := cX_VR hx he
  simp only [aP] at hv
  unfold aUn at hv
  split at hv
  all_goals first
    | (cases hv; done)
    | (rename_i hc
       obtain rfl := Option.some.inj hv
       rw [hc] at h1
       simp only [VR] at h1
       exact ⟨_, by simp only [execOp, ho, h1]; simp [Op.unary, Op.intArith, Op.intBits]; try rfl, by simp [VR]⟩)

theorem POk.cvInt {P : Program} {o : Oper} {s d : TypeId} {k : IntKind} {x : Operand} {ax : AX} (ho : o.op = .convert s d x) (hs : (P.underlying s).isSome = true) (hd : P.underlying d = some (.int k)) (hx : cX x = some ax) : POk P o (.cvInt k ax) := by
  intro ι e a w v he hv
  have h1 := cX_VR hx he
  obtain ⟨ds, hds⟩ := Option.isSome_iff_exists.1 hs
  simp only [aP] at hv
  split at hv
  case h_2 => cases hv
  rename_i k' n hc
  obtain rfl := Option.some.inj hv
  rw [hc] at h1
  simp only [VR] at h1
  refine ⟨.int k (k.wrap n), ?_, by simp [VR]⟩
  simp only [execOp, ho, h1]
  simp [convert, run_underlying hds, run_underlying hd, Conv.intToInt]

theorem POk.cvStr {P : Program} {o : Oper} {s d : TypeId} {x : Operand} {ax : AX} (ho : o.op = .convert s d x) (hs : P.underlying s = some .string) (hd : P.underlying d = some .string) (hx : cX x = some ax) : POk P o (.cvStr ax) := by
  intro ι e a w v he hv
  have h1 := cX_VR hx he
  simp only [aP] at hv
  split at hv
  case h_2 => cases hv
  rename_i k' hc
  obtain rfl := Option.some.inj hv
  rw [hc] at h1
  refine ⟨a.eval x, ?_, h1⟩
  simp only [VR] at h1
  obtain ⟨b, h1, _⟩ := h1
  simp only [execOp, ho, h1]
  simp [convert, run_underlying hs, run_underlying hd]

def cXs : List Operand → Option (List AX)
  | [] => some []
  | x :: r => match cX x, cXs r with
    | some a, some l => some (a :: l)
    | _, _ => none

theorem cXs_VR {ι : Inj} {e : Env} {a : Act} (he : VRL ι e a.tmps.toList) : ∀ {l : List Operand} {al : List AX}, cXs l = some al → VRL ι (al.map (AX.ev e)) (l.map a.eval)
  | [], al, h => by
    simp only [cXs, Option.some.injEq] at h
    subst h
    simp [VRL]
  | x :: r, al, h => by
    simp only [cXs] at h
    split at h
    case h_2 => cases h
    rename_i b l h1 h2
    obtain rfl := Option.some.inj h
    simp only [List.map_cons, VRL]
    exact ⟨cX_VR h1 he, cXs_VR he h2⟩

theorem POk.mkFunc {P : Program} {o : Oper} {f : FuncId} {caps : Array Operand} {al : List AX} (ho : o.op = .makeFunc (.func f) #[] caps) (hx : cXs caps.toList = some al) : POk P o (.mkFunc f al) := by
  intro ι e a w v he hv
  simp only [aP, Option.some.injEq] at hv
  subst hv
  refine ⟨.func (.func f) #[] (caps.map a.eval), by simp [execOp, ho, Instr.makeFunc], ?_⟩
  simp only [VR]
  exact ⟨_, rfl, by simpa using cXs_VR he hx⟩

def cXo : Option Operand → Option (Option AX)
  | none => some none
  | some x => (cX x).map some

/-- A bound that is there, in the model. -/
theorem run_bound {P : Program} {ι : Inj} {v : AV} {v' : Value} {m n : Nat} (h : aBound v m = some n) (r : VR ι v v') (m' : Nat) (hm : m ≤ m') (code : BoundsCode) (w : World) :
    (Instr.sliceBound v' m' code).run P w = .ok n w ∧ n ≤ m := by
  unfold aBound at h
  split at h
  case h_2 => cases h
  split at h
  case isFalse => cases h
  rename_i k i hi
  obtain rfl := Option.some.inj h
  simp only [VR] at r
  subst r
  exact ⟨run_sliceBound (P := P) w k i m' code hi.1 (by omega), by omega⟩

def hiMost (mx : Option AX) (cap m : Nat) : Nat :=
  match mx with
  | none => cap
  | some _ => m
def mxIs (e : Env) (mx : Option AX) (cap cap' m : Nat) : Prop :=
  match mx with
  | none => m = cap'
  | some x => aBound (x.ev e) cap = some m

theorem run_boundsO {P : Program} {ι : Inj} {e : Env} {a : Act} (he : VRL ι e a.tmps.toList) {lo hi mx : Option Operand} {alo ahi amx : Option AX} (hlo : cXo lo = some alo) (hhi : cXo hi = some ahi) (hmx : cXo mx = some amx) (isSlice : Bool) {len cap cap' : Nat} (hcap : cap ≤ cap') (hlc : len ≤ cap)
    {l h : Nat} {m : Nat} (w : World) (hm : mxIs e amx cap cap' m)
    (hh : aBoundO e ahi len (hiMost amx cap m) = some h) (hn : ahi = none → amx = none) (hl : aBoundO e alo 0 h = some l) :
    (Instr.sliceBounds isSlice len cap' (lo.map a.eval) (hi.map a.eval) (mx.map a.eval)).run P w = .ok (l, h, m) w ∧ l ≤ h ∧ h ≤ hiMost amx cap m ∧ (amx ≠ none → m ≤ cap) := by
  have B : ∀ (x : Operand) (ax : AX), cX x = some ax → ∀ m n m', aBound (ax.ev e) m = some n → m ≤ m' → (∀ code w, (Instr.sliceBound (a.eval x) m' code).run P w = .ok n w) ∧ n ≤ m :=
    fun x ax hx m n m' hb hm => ⟨fun code w => (run_bound (P := P) hb (cX_VR hx he) m' hm code w).1, (run_bound (P := P) hb (cX_VR hx he) m' hm .index w).2⟩
  have hlo' : (lo = none ∧ alo = none) ∨ ∃ x ax, lo = some x ∧ alo = some ax ∧ cX x = some ax := by
    cases lo with
    | none => simp only [cXo, Option.some.injEq] at hlo; exact .inl ⟨rfl, hlo.symm⟩
    | some x => simp only [cXo] at hlo; obtain ⟨ax, h1, h2⟩ := Option.map_eq_some_iff.1 hlo; exact .inr ⟨x, ax, rfl, h2.symm, h1⟩
  have hhi' : (hi = none ∧ ahi = none) ∨ ∃ x ax, hi = some x ∧ ahi = some ax ∧ cX x = some ax := by
    cases hi with
    | none => simp only [cXo, Option.some.injEq] at hhi; exact .inl ⟨rfl, hhi.symm⟩
    | some x => simp only [cXo] at hhi; obtain ⟨ax, h1, h2⟩ := Option.map_eq_some_iff.1 hhi; exact .inr ⟨x, ax, rfl, h2.symm, h1⟩
  have hmx' : (mx = none ∧ amx = none) ∨ ∃ x ax, mx = some x ∧ amx = some ax ∧ cX x = some ax := by
    cases mx with
    | none => simp only [cXo, Option.some.injEq] at hmx; exact .inl ⟨rfl, hmx.symm⟩
    | some x => simp only [cXo] at hmx; obtain ⟨ax, h1, h2⟩ := Option.map_eq_some_iff.1 hmx; exact .inr ⟨x, ax, rfl, h2.symm, h1⟩
  clear hlo hhi hmx
  rcases hmx' with ⟨rfl, rfl⟩ | ⟨x, ax, rfl, rfl, hx⟩
  · simp only [mxIs] at hm
    subst hm
    simp only [hiMost] at hh ⊢
    rcases hhi' with ⟨rfl, rfl⟩ | ⟨y, ay, rfl, rfl, hy⟩
    · simp only [aBoundO, Option.some.injEq] at hh
      subst hh
      rcases hlo' with ⟨rfl, rfl⟩ | ⟨z, az, rfl, rfl, hz⟩
      · simp only [aBoundO, Option.some.injEq] at hl
        subst hl
        exact ⟨by simp [Instr.sliceBounds], Nat.zero_le _, hlc, by simp⟩
      · simp only [aBoundO] at hl
        obtain ⟨k1, k2⟩ := B z az hz _ _ _ hl (Nat.le_refl _)
        exact ⟨by simp [Instr.sliceBounds, k1], k2, hlc, by simp⟩
    · simp only [aBoundO] at hh
      obtain ⟨j1, j2⟩ := B y ay hy _ _ _ hh hcap
      rcases hlo' with ⟨rfl, rfl⟩ | ⟨z, az, rfl, rfl, hz⟩
      · simp only [aBoundO, Option.some.injEq] at hl
        subst hl
        exact ⟨by simp [Instr.sliceBounds, j1], Nat.zero_le _, j2, by simp⟩
      · simp only [aBoundO] at hl
        obtain ⟨k1, k2⟩ := B z az hz _ _ _ hl (Nat.le_refl _)
        exact ⟨by simp [Instr.sliceBounds, j1, k1], k2, j2, by simp⟩
  · simp only [mxIs] at hm
    simp only [hiMost] at hh ⊢
    obtain ⟨i1, i2⟩ := B x ax hx _ _ _ hm hcap
    rcases hhi' with ⟨rfl, rfl⟩ | ⟨y, ay, rfl, rfl, hy⟩
    · cases hn rfl
    · simp only [aBoundO] at hh
      obtain ⟨j1, j2⟩ := B y ay hy _ _ _ hh (Nat.le_refl _)
      rcases hlo' with ⟨rfl, rfl⟩ | ⟨z, az, rfl, rfl, hz⟩
      · simp only [aBoundO, Option.some.injEq] at hl
        subst hl
        exact ⟨by simp [Instr.sliceBounds, i1, j1], Nat.zero_le _, j2, fun _ => i2⟩
      · simp only [aBoundO] at hl
        obtain ⟨k1, k2⟩ := B z az hz _ _ _ hl (Nat.le_refl _)
        exact ⟨by simp [Instr.sliceBounds, i1, j1, k1], k2, j2, fun _ => i2⟩

theorem POk.sliceStr {P : Program} {o : Oper} {t : TypeId} {x : Operand} {lo hi : Option Operand} {ax : AX} {alo ahi : Option AX} (ho : o.op = .slice t x lo hi none) (ht : P.underlying t = some .string) (hx : cX x = some ax)
    (hlo : cXo lo = some alo) (hhi : cXo hi = some ahi) : POk P o (.sliceStr ax alo ahi) := by
  intro ι e a w v he hv
  have h1 := cX_VR hx he
  simp only [aP] at hv
  split at hv
  case h_2 => cases hv
  rename_i s hc
  rw [hc] at h1
  simp only [VR] at h1
  obtain ⟨b, h1, rfl⟩ := h1
  unfold aSliceStr at hv
  obtain ⟨h, hh, hv⟩ := Option.bind_eq_some_iff.1 hv
  obtain ⟨l, hl, hv⟩ := Option.bind_eq_some_iff.1 hv
  obtain rfl := Option.some.inj hv
  have hsz : b.data.toList.length = b.size := by simp
  rw [hsz] at hh
  have key := run_boundsO (P := P) he (mx := none) (amx := none) hlo hhi rfl false (Nat.le_refl b.size) (Nat.le_refl b.size) (l := l) (h := h) (m := b.size) w rfl hh (fun _ => rfl) hl
  refine ⟨.string (b.extract l h), ?_, ?_⟩
  · simp only [execOp, ho, h1]
    simp only [Option.map_none] at key ⊢
    simp [Instr.sliceAt, run_underlying ht, Instr.slice, key.1]
  · simp only [VR]
    refine ⟨_, rfl, ?_⟩
    obtain ⟨⟨bl⟩⟩ := b
    rw [ByteArray.extract_mk]

theorem aShift_none {a : Option (Nat × Nat)} {n : Nat} : (aShift a n = none) ↔ a = none := by cases a <;> simp [aShift]

theorem POk.slice {P : Program} {o : Oper} {t elem : TypeId} {n : Nat} {x : Operand} {lo hi mx : Option Operand} {ax : AX} {alo ahi amx : Option AX} (ho : o.op = .slice t x lo hi mx) (ht : P.underlying t = some (.slice elem)) (hn : szOf P elem = some n) (hx : cX x = some ax)
    (hlo : cXo lo = some alo) (hhi : cXo hi = some ahi) (hmx : cXo mx = some amx) : POk P o (.slice n ax alo ahi amx) := by
  intro ι e a w v he hv
  have h1 := cX_VR hx he
  simp only [aP] at hv
  split at hv
  case h_2 => cases hv
  rename_i p sz' len cap ex hc
  rw [hc] at h1
  have shape : ∃ base cap', a.eval x = .slice base len cap' ∧ len ≤ cap ∧ cap ≤ cap' ∧ (ex = true → cap' = cap) ∧
      (∀ l h m ex', l ≤ h → h ≤ m → m ≤ cap → (p = none ∨ sz' = n) → ∀ m', (ex' = true → m' = m) → m ≤ m' → m' ≤ cap' → VR ι (.slice (aShift p (l * n)) n (h - l) (m - l) (if p.isNone then true else ex')) (.slice (if m' = l then base else base.map (·.add (l * n))) (h - l) (m' - l))) ∧
      (p = none → ex = true ∧ cap = 0) := by
    cases p with
    | none =>
      simp only [VR] at h1
      obtain ⟨h1, rfl, rfl, rfl⟩ := h1
      refine ⟨none, 0, h1, Nat.le_refl _, Nat.le_refl _, fun _ => rfl, fun l h m ex' a1 a2 a3 _ m' _ _ a5 => ?_, fun _ => ⟨rfl, rfl⟩⟩
      obtain rfl : m = 0 := by omega
      obtain rfl : h = 0 := by omega
      obtain rfl : l = 0 := by omega
      obtain rfl : m' = 0 := by omega
      simp [aShift, VR]
    | some q =>
      obtain ⟨b, off⟩ := q
      simp only [VR] at h1
      obtain ⟨L, ad, cap', e1, e2, e3, e4, e5, e6, e7, e8, e9, e10⟩ := h1
      refine ⟨some ad, cap', e2, e6, e7, e8, fun l h m ex' a1 a2 a3 a4 m' a5 a6 a7 => ?_, fun h => by cases h⟩
      obtain rfl : sz' = n := a4.resolve_left (by simp)
      simp only [aShift, Option.map_some, Option.isNone_some, Bool.false_eq_true, if_false, VR]
      have hsp : ∃ ad', (if m' = l then some ad else some (ad.add (l * sz'))) = some ad' ∧ (m' - l = 0 ∨ ad'.block = L.j) ∧ (m' - l = 0 ∨ ad'.spot = none) ∧ (m' - l = 0 ∨ ad'.off = L.d + (off + l * sz')) := by
        by_cases hm : m' = l
        · exact ⟨ad, by rw [if_pos hm], .inl (by omega), .inl (by omega), .inl (by omega)⟩
        · rw [if_neg hm]
          replace e3 := e3.resolve_left (by omega)
          replace e4 := e4.resolve_left (by omega)
          refine ⟨_, rfl, .inr ?_, .inr ?_, .inr ?_⟩
          · unfold Addr.add; split <;> simp [e3]
          · unfold Addr.add; split <;> simp [e4]
          · have hoff := e5.resolve_left (by omega)
            unfold Addr.add
            split
            · rename_i h0; rw [hoff, h0]; omega
            · simp only; rw [hoff]; omega
      obtain ⟨ad', f1, f2, f3, f4⟩ := hsp
      refine ⟨L, ad', m' - l, e1, by rw [f1], f2, f3, f4, by omega, by omega, fun hx => by rw [a5 hx], ?_, e10⟩
      have : l * sz' + (m' - l) * sz' = m' * sz' := by rw [← Nat.add_mul]; congr 1; omega
      have : m' * sz' ≤ cap' * sz' := Nat.mul_le_mul_right _ a7
      omega
  obtain ⟨base, cap', hev, hlc, hcc, hex, hres, hnil⟩ := shape
  unfold aSlice at hv
  split at hv
  case isFalse => cases hv
  rename_i hsz
  cases amx with
  | none =>
    simp only at hv
    obtain ⟨h, hh, hv⟩ := Option.bind_eq_some_iff.1 hv
    obtain ⟨l, hl, hv⟩ := Option.bind_eq_some_iff.1 hv
    obtain rfl := Option.some.inj hv
    have key := run_boundsO (P := P) he hlo hhi hmx true hcc hlc (l := l) (h := h) (m := cap') w rfl hh (fun _ => rfl) hl
    refine ⟨.slice (if cap' = l then base else base.map (·.add (l * n))) (h - l) (cap' - l), ?_, ?_⟩
    · simp only [execOp, ho, hev]
      simp [Instr.sliceAt, run_underlying ht, Instr.slice, key.1, run_sz hn]
    · have := hres l h cap ex key.2.1 (by simpa [hiMost] using key.2.2.1) (Nat.le_refl _) hsz cap' hex hcc (Nat.le_refl _)
      cases hp : p with
      | none =>
        obtain ⟨rfl, rfl⟩ := hnil hp
        simpa [hp] using this
      | some q => simpa [hp] using this
  | some am =>
    simp only at hv
    obtain ⟨m, hm, hv⟩ := Option.bind_eq_some_iff.1 hv
    cases ahi with
    | none => cases hv
    | some ah =>
      simp only at hv
      obtain ⟨h, hh, hv⟩ := Option.bind_eq_some_iff.1 hv
      obtain ⟨l, hl, hv⟩ := Option.bind_eq_some_iff.1 hv
      obtain rfl := Option.some.inj hv
      have key := run_boundsO (P := P) he hlo hhi hmx true hcc hlc (l := l) (h := h) (m := m) w hm hh (fun h => by cases h) hl
      refine ⟨.slice (if m = l then base else base.map (·.add (l * n))) (h - l) (m - l), ?_, ?_⟩
      · simp only [execOp, ho, hev]
        simp [Instr.sliceAt, run_underlying ht, Instr.slice, key.1, run_sz hn]
      · have := hres l h m true key.2.1 (by simpa [hiMost] using key.2.2.1) (key.2.2.2 (by simp)) hsz m (fun _ => rfl) (Nat.le_refl _) (Nat.le_trans (key.2.2.2 (by simp)) hcc)
        cases hp : p with
        | none => simpa [hp] using this
        | some q => simpa [hp] using this


theorem POk.fieldAddr {P : Program} {o : Oper} {t : TypeId} {fs : Array Field} {f : Nat} {fd : Field} {n : Nat} {x : Operand} {ax : AX} (ho : o.op = .fieldAddr t x f) (ht : P.underlying t = some (.struct fs)) (hf : fs[f]? = some fd) (hn : szOf P fd.type = some (n + 1)) (hx : cX x = some ax) : POk P o (.fieldAddr fd.offset ax) := by
  intro ι e a w v he hv
  have h1 := cX_VR hx he
  simp only [aP] at hv
  split at hv
  case h_2 => cases hv
  rename_i p hc
  obtain rfl := Option.some.inj hv
  rw [hc] at h1
  obtain ⟨b, off⟩ := p
  simp only [VR] at h1
  obtain ⟨L, hL, h1⟩ := h1
  refine ⟨.pointer (some ⟨L.j, L.d + off + fd.offset, none⟩), ?_, ?_⟩
  · simp only [execOp, ho, h1]
    simp [Instr.fieldAt, run_underlying ht, hf, Instr.sureAddr, fieldPlace, run_sz hn, add_none]
  · simp only [VR]
    exact ⟨L, hL, by rw [Nat.add_assoc]⟩

theorem POk.field {P : Program} {o : Oper} {t : TypeId} {fs : Array Field} {f : Nat} {fd : Field} {n : Nat} {g : Bool} {x : Operand} {ax : AX} (ho : o.op = .field t x f) (ht : P.underlying t = some (.struct fs)) (hf : fs[f]? = some fd) (hg : aggOf P fd.type = some g) (hn : szOf P fd.type = some n) (hx : cX x = some ax) : POk P o (.field g fd.offset n ax) := by
  intro ι e a w v he hv
  have h1 := cX_VR hx he
  simp only [aP] at hv
  split at hv
  case h_2 => cases hv
  rename_i cs hc
  rw [hc] at h1
  simp only [VR] at h1
  obtain ⟨vs, h1, h2⟩ := h1
  obtain ⟨v', hr, hv'⟩ := run_part (P := P) hg hn h2 hv w
  exact ⟨v', by simp only [execOp, ho, h1]; simp [Instr.field, run_underlying ht, hf, asAgg, hr], hv'⟩

theorem POk.idxArr {P : Program} {o : Oper} {t elem : TypeId} {m n : Nat} {x i : Operand} {ax ai : AX} (ho : o.op = .indexAddr t x i) (ht : P.underlying t = some (.array m elem)) (hn : szOf P elem = some n) (hx : cX x = some ax) (hi : cX i = some ai) : POk P o (.idxArr m n ax ai) := by
  intro ι e a w v he hv
  have h1 := cX_VR hx he
  have h2 := cX_VR hi he
  simp only [aP] at hv
  split at hv
  case h_2 => cases hv
  rename_i p k j hc1 hc2
  rw [hc1] at h1
  rw [hc2] at h2
  obtain ⟨b, off⟩ := p
  split at hv
  case isFalse => cases hv
  rename_i hj
  obtain rfl := Option.some.inj hv
  simp only [VR] at h1 h2
  obtain ⟨L, hL, h1⟩ := h1
  refine ⟨.pointer (some ⟨L.j, L.d + off + j.toNat * n, none⟩), ?_, ?_⟩
  · simp only [execOp, ho, h1, h2]
    simp [Instr.indexAt, asIntOf, run_underlying ht, Instr.sureAddr, hj.1, hj.2, run_sz hn, add_none]
  · simp only [VR]
    exact ⟨L, hL, by rw [Nat.add_assoc]⟩

theorem POk.idxSlice {P : Program} {o : Oper} {t elem : TypeId} {n : Nat} {x i : Operand} {ax ai : AX} (ho : o.op = .indexAddr t x i) (ht : P.underlying t = some (.slice elem)) (hn : szOf P elem = some n) (hx : cX x = some ax) (hi : cX i = some ai) : POk P o (.idxSlice n ax ai) := by
  intro ι e a w v he hv
  have h1 := cX_VR hx he
  have h2 := cX_VR hi he
  simp only [aP] at hv
  split at hv
  case h_2 => cases hv
  rename_i p sz' len cap ex k j hc1 hc2
  rw [hc1] at h1
  rw [hc2] at h2
  obtain ⟨b, off⟩ := p
  split at hv
  case isFalse => cases hv
  rename_i hj
  obtain rfl := Option.some.inj hv
  obtain ⟨hj0, hj1, rfl⟩ := hj
  simp only [VR] at h1 h2
  obtain ⟨L, ad, cap', e1, e2, e3, e4, e5, e6, e7, e8, e9, e10⟩ := h1
  have hoff := e5.resolve_left (by omega)
  replace e3 := e3.resolve_left (by omega)
  replace e4 := e4.resolve_left (by omega)
  obtain ⟨ab, ao, asp⟩ := ad
  simp only at e3 e4 hoff
  subst e3 e4 hoff
  refine ⟨.pointer (some ⟨L.j, L.d + off + j.toNat * sz', none⟩), ?_, ?_⟩
  · simp only [execOp, ho, e2, h2]
    simp [Instr.indexAt, asIntOf, run_underlying ht, hj0, hj1, run_sz hn, add_none]
  · simp only [VR]
    exact ⟨L, e1, by rw [Nat.add_assoc]⟩

theorem POk.index {P : Program} {o : Oper} {t elem : TypeId} {m n : Nat} {g : Bool} {x i : Operand} {ax ai : AX} (ho : o.op = .index t x i) (ht : P.underlying t = some (.array m elem)) (hg : aggOf P elem = some g) (hn : szOf P elem = some n) (hx : cX x = some ax) (hi : cX i = some ai) : POk P o (.index g m n ax ai) := by
  intro ι e a w v he hv
  have h1 := cX_VR hx he
  have h2 := cX_VR hi he
  simp only [aP] at hv
  split at hv
  case h_2 => cases hv
  rename_i cs k j hc1 hc2
  rw [hc1] at h1
  rw [hc2] at h2
  split at hv
  case isFalse => cases hv
  rename_i hj
  simp only [VR] at h1 h2
  obtain ⟨vs, h1, h3⟩ := h1
  obtain ⟨v', hr, hv'⟩ := run_part (P := P) hg hn h3 hv w
  exact ⟨v', by simp only [execOp, ho, h1, h2]; simp [Instr.index, asIntOf, run_underlying ht, hj.1, hj.2, run_sz hn, hr], hv'⟩

theorem POk.indexStr {P : Program} {o : Oper} {t : TypeId} {x i : Operand} {ax ai : AX} (ho : o.op = .index t x i) (ht : P.underlying t = some .string) (hx : cX x = some ax) (hi : cX i = some ai) : POk P o (.indexStr ax ai) := by
  intro ι e a w v he hv
  have h1 := cX_VR hx he
  have h2 := cX_VR hi he
  simp only [aP] at hv
  split at hv
  case h_2 => cases hv
  rename_i s k j hc1 hc2
  rw [hc1] at h1
  rw [hc2] at h2
  split at hv
  case isFalse => cases hv
  rename_i hj
  simp only [VR] at h1 h2
  obtain ⟨b, h1, rfl⟩ := h1
  obtain ⟨c, hcc, rfl⟩ := Option.map_eq_some_iff.1 hv
  have hlt : j.toNat < b.size := by
    have := (List.getElem?_eq_some_iff.1 hcc).1
    simpa using this
  have hget : b[j.toNat]? = some c := by
    rw [ByteArray.getElem?_lt' b _ hlt]
    have := (List.getElem?_eq_some_iff.1 hcc).2
    rw [← this]
    rfl
  refine ⟨.int .u8 c.toNat, ?_, by simp [VR]⟩
  simp only [execOp, ho, h1, h2]
  simp [Instr.index, asIntOf, run_underlying ht, hj, hget]

theorem POk.extract {P : Program} {o : Oper} {x : Operand} {i : Nat} {ax : AX} (ho : o.op = .extract x i) (hx : cX x = some ax) : POk P o (.extract ax i) := by
  intro ι e a w v he hv
  have h1 := cX_VR hx he
  simp only [aP] at hv
  split at hv
  case h_2 => cases hv
  rename_i cs hc
  rw [hc] at h1
  simp only [VR] at h1
  obtain ⟨vs, h1, h2⟩ := h1
  obtain ⟨v', hr, hv'⟩ := h2.get i v hv
  rw [Array.getElem?_toList] at hr
  exact ⟨v', by simp only [execOp, ho, h1]; simp [Instr.extract, hr], hv'⟩

theorem POk.lenStr {P : Program} {o : Oper} {t : TypeId} {x : Operand} {ax : AX} (ho : o.op = .call { callee := .builtin .len, args := #[x], argTypes := #[t] })
    (ht : P.underlying t = some .string) (hx : cX x = some ax) : POk P o (.len true ax) := by
  intro ι e a w v he hv
  have h1 := cX_VR hx he
  simp only [aP] at hv
  split at hv
  case h_3 => cases hv
  case h_2 => contradiction
  rename_i s _ hc
  obtain rfl := Option.some.inj hv
  rw [hc] at h1
  simp only [VR] at h1
  obtain ⟨b, h1, rfl⟩ := h1
  refine ⟨.int .i64 b.size, ?_, by simp [VR]⟩
  simp [execOp, ho, resolve, invoke, builtin, Builtin.len_, h1, run_underlying ht, goInt]

theorem slice_form {ι : Inj} {p : Option (Nat × Nat)} {sz len cap : Nat} {ex : Bool} {v : Value} (h : VR ι (.slice p sz len cap ex) v) : ∃ ad c, v = .slice ad len c ∧ cap ≤ c ∧ len ≤ cap ∧ (ex = true → c = cap) ∧ (ad = none ↔ p = none) := by
  cases p with
  | none => simp only [VR] at h; obtain ⟨h, rfl, rfl, rfl⟩ := h; exact ⟨_, _, h, Nat.le_refl _, Nat.le_refl _, fun _ => rfl, by simp⟩
  | some q =>
    obtain ⟨b, off⟩ := q
    simp only [VR] at h
    obtain ⟨L, ad, c, _, h1, _, _, _, h2, h3, h4, _⟩ := h
    exact ⟨_, _, h1, h3, h2, h4, by simp⟩

theorem POk.lenSlice {P : Program} {o : Oper} {t elem : TypeId} {x : Operand} {ax : AX} (ho : o.op = .call { callee := .builtin .len, args := #[x], argTypes := #[t] })
    (ht : P.underlying t = some (.slice elem)) (hx : cX x = some ax) : POk P o (.len false ax) := by
  intro ι e a w v he hv
  have h1 := cX_VR hx he
  simp only [aP] at hv
  split at hv
  case h_3 => cases hv
  case h_1 => contradiction
  rename_i p sz len cap ex _ hc
  obtain rfl := Option.some.inj hv
  rw [hc] at h1
  obtain ⟨ad, c, h1, _⟩ := slice_form h1
  refine ⟨.int .i64 len, ?_, by simp [VR]⟩
  simp [execOp, ho, resolve, invoke, builtin, Builtin.len_, h1, run_underlying ht, goInt]

theorem POk.lenArr {P : Program} {o : Oper} {t elem : TypeId} {n : Nat} {x : Operand} (ho : o.op = .call { callee := .builtin .len, args := #[x], argTypes := #[t] })
    (ht : P.underlying t = some (.array n elem)) : POk P o (.move (.c (.int .i64 n))) := by
  intro ι e a w v he hv
  simp only [aP, AX.ev, Option.some.injEq] at hv
  subst hv
  refine ⟨.int .i64 n, ?_, by simp [VR]⟩
  simp [execOp, ho, resolve, invoke, builtin, Builtin.len_, run_underlying ht, goInt]

theorem POk.cap {P : Program} {o : Oper} {t elem : TypeId} {x : Operand} {ax : AX} (ho : o.op = .call { callee := .builtin .cap, args := #[x], argTypes := #[t] })
    (ht : P.underlying t = some (.slice elem)) (hx : cX x = some ax) : POk P o (.cap ax) := by
  intro ι e a w v he hv
  have h1 := cX_VR hx he
  simp only [aP] at hv
  split at hv
  case h_2 => cases hv
  rename_i p sz len cap hc
  obtain rfl := Option.some.inj hv
  rw [hc] at h1
  obtain ⟨ad, c, h1, _, _, h2, _⟩ := slice_form h1
  refine ⟨.int .i64 c, ?_, by simp [VR, h2 rfl]⟩
  simp [execOp, ho, resolve, invoke, builtin, Builtin.cap_, h1, run_underlying ht, goInt]

theorem run_fold {P : Program} {ι : Inj} (isMax : Bool) : ∀ (l : List AV) (r : List Value) (a : AV) (v : Value) (b : AV), VRL ι l r → VR ι a v → aFold isMax a l = some b → ∀ w, ∃ v', ((r.foldlM (if isMax then Builtin.max2 else Builtin.min2) v)).run P w = .ok v' w ∧ VR ι b v' := by
  intro l
  induction l with
  | nil =>
    intro r a v b hl ha hb w
    cases r with
    | nil => simp only [aFold, Option.some.injEq] at hb; subst hb; exact ⟨v, by simp, ha⟩
    | cons _ _ => simp [VRL] at hl
  | cons x l ih =>
    intro r a v b hl ha hb w
    cases r with
    | nil => simp [VRL] at hl
    | cons y r =>
      simp only [VRL] at hl
      simp only [aFold] at hb
      obtain ⟨z, hz, hb⟩ := Option.bind_eq_some_iff.1 hb
      unfold aMinMax at hz
      split at hz
      case h_2 => cases hz
      rename_i k m k' m'
      split at hz
      case isFalse => cases hz
      rename_i hk
      subst hk
      obtain rfl := Option.some.inj hz
      simp only [VR] at ha
      have hy := hl.1
      simp only [VR] at hy
      subst ha hy
      have hstep : ∀ w, ((if isMax then Builtin.max2 else Builtin.min2) (.int k m) (.int k m')).run P w = .ok (.int k (if isMax then (if m' > m then m' else m) else (if m' < m then m' else m))) w := by
        intro w
        cases isMax <;> simp [Builtin.max2, Builtin.min2]
      obtain ⟨v', hr, hv'⟩ := ih r _ (.int k (if isMax then (if m' > m then m' else m) else (if m' < m then m' else m))) b hl.2 (by simp [VR]) hb w
      exact ⟨v', by rw [List.foldlM_cons, Sem.run_bind, hstep, Result.andThen_ok, hr], hv'⟩

theorem POk.minmax {P : Program} {o : Oper} {isMax : Bool} {xs : Array Operand} {ts : Array TypeId} {al : List AX} (ho : o.op = .call { callee := .builtin (if isMax then .max else .min), args := xs, argTypes := ts }) (hx : cXs xs.toList = some al) : POk P o (.minmax isMax al) := by
  intro ι e a w v he hv
  have h1 := cXs_VR he hx
  simp only [aP] at hv
  split at hv
  case h_2 => cases hv
  rename_i x r hc
  rw [hc] at h1
  cases hxs : xs.toList with
  | nil => simp [hxs, VRL] at h1
  | cons y ys =>
    rw [hxs] at h1
    simp only [List.map_cons, VRL] at h1
    obtain ⟨v', hr, hv'⟩ := run_fold (P := P) isMax r _ x _ v h1.2 h1.1 hv w
    refine ⟨v', ?_, hv'⟩
    cases isMax
    · simp only [Bool.false_eq_true, if_false] at hr ho
      simp only [execOp, ho]
      simp [resolve, invoke, builtin, Builtin.min_, hxs, hr]
    · simp only [if_true] at hr ho
      simp only [execOp, ho]
      simp [resolve, invoke, builtin, Builtin.max_, hxs, hr]

/-! ### Comparing -/

/-- The kinds of a type's cells, where they are held against each other cell by cell. -/
def flatFields (f : TypeId → Option (List Kd)) : List Field → Nat → Option (List Kd)
  | [], _ => some []
  | fd :: r, n => match f fd.type with
    | some k => if fd.name ≠ "_" ∧ fd.offset = n then (flatFields f r (n + k.length)).map (k ++ ·) else none
    | none => none

def sized (P : Program) (u : TypeId) (k : List Kd) : Option (List Kd) := if szOf P u = some k.length then some k else none

def flatOf (P : Program) : Nat → TypeId → Option (List Kd)
  | 0, _ => none
  | d + 1, t => match P.underlying t with
    | some .bool => some [.b]
    | some (.int _) => some [.i]
    | some .string => some [.s]
    | some (.struct fs) => if P.stoodInHeld t = false then flatFields (fun u => (flatOf P d u).bind (sized P u)) fs.toList 0 else none
    | _ => none

theorem aEqKs_append : ∀ {k1 k2 : List Kd} {a b : List AV} {r : Bool}, aEqKs (k1 ++ k2) a b = some r →
    ∃ r1 r2, aEqKs k1 (a.take k1.length) (b.take k1.length) = some r1 ∧ aEqKs k2 (a.drop k1.length) (b.drop k1.length) = some r2 ∧ r = (r1 && r2)
  | [], k2, a, b, r, h => ⟨true, r, by simp [aEqKs], by simpa using h, by simp⟩
  | k :: k1, k2, [], b, r, h => by simp [aEqKs] at h
  | k :: k1, k2, _ :: _, [], r, h => by simp [aEqKs] at h
  | k :: k1, k2, x :: a, y :: b, r, h => by
    simp only [List.cons_append, aEqKs] at h
    split at h
    case h_2 => cases h
    rename_i u v h1 h2
    obtain rfl := Option.some.inj h
    obtain ⟨r1, r2, e1, e2, rfl⟩ := aEqKs_append h2
    exact ⟨u && r1, r2, by simp [aEqKs, h1, e1], by simpa using e2, by simp [Bool.and_assoc]⟩

def KdT (P : Program) (t : TypeId) : Kd → Prop
  | .b => P.underlying t = some .bool
  | .i => ∃ k, P.underlying t = some (.int k)
  | .s => P.underlying t = some .string

theorem aEqK_run {P : Program} {ι : Inj} {k : Kd} {x y : AV} {r : Bool} (h : aEqK k x y = some r) {v v' : Value} (hx : VR ι x v) (hy : VR ι y v') {t : TypeId}
    (ht : KdT P t k) (d : Nat) (w : World) :
    (Op.equalIn (d + 1) t v v').run P w = .ok r w := by
  cases k <;> cases x <;> cases y <;> simp only [aEqK] at h <;> first | (cases h; done) | skip
  · obtain rfl := Option.some.inj h
    simp only [VR] at hx hy
    subst hx hy
    simp only [KdT] at ht
    simp [Op.equalIn, run_underlying ht]
  · split at h
    case isFalse => cases h
    rename_i hk
    subst hk
    obtain rfl := Option.some.inj h
    simp only [VR] at hx hy
    subst hx hy
    simp only [KdT] at ht
    obtain ⟨k', ht⟩ := ht
    simp [Op.equalIn, run_underlying ht]
  · obtain rfl := Option.some.inj h
    simp only [VR] at hx hy
    obtain ⟨a, rfl, rfl⟩ := hx
    obtain ⟨b, rfl, rfl⟩ := hy
    simp only [KdT] at ht
    rw [run_equalIn_string w d t a b ht, ByteArray.toList_eq, ByteArray.toList_eq]

/-- The parts of two values at one place. -/
def eqAt (d : Nat) (t : TypeId) (xs ys : Array Value) (off : Nat) : Sem Bool := do
  let a ← part t xs off
  let b ← part t ys off
  Op.equalIn d t a b

theorem aEqKs_length : ∀ {ks : List Kd} {a b : List AV} {r : Bool}, aEqKs ks a b = some r → a.length = ks.length ∧ b.length = ks.length
  | [], [], [], _, _ => by simp
  | k :: ks, x :: a, y :: b, r, h => by
    simp only [aEqKs] at h
    split at h
    case h_2 => cases h
    rename_i h2
    have := aEqKs_length h2
    simp [this]
  | [], _ :: _, _, _, h => by simp [aEqKs] at h
  | [], [], _ :: _, _, h => by simp [aEqKs] at h
  | _ :: _, [], _, _, h => by simp [aEqKs] at h
  | _ :: _, _ :: _, [], _, h => by simp [aEqKs] at h

theorem eqAt_scalar {P : Program} {ι : Inj} {k : Kd} {as bs : List AV} {xs ys : Array Value} (hx : VRL ι as xs.toList) (hy : VRL ι bs ys.toList) {off : Nat} {r : Bool} (h : aEqKs [k] ((as.drop off).take 1) ((bs.drop off).take 1) = some r)
    {t : TypeId} (ht : KdT P t k) (d : Nat) (w : World) : (eqAt (d + 1) t xs ys off).run P w = .ok r w := by
  have hl := aEqKs_length h
  obtain ⟨x, hx1⟩ : ∃ x, as[off]? = some x := by
    cases ha : as[off]? with
    | some x => exact ⟨x, rfl⟩
    | none =>
      rw [List.getElem?_eq_none_iff] at ha
      have := hl.1
      rw [List.drop_eq_nil_of_le ha] at this
      simp at this
  obtain ⟨y, hy1⟩ : ∃ y, bs[off]? = some y := by
    cases ha : bs[off]? with
    | some x => exact ⟨x, rfl⟩
    | none =>
      rw [List.getElem?_eq_none_iff] at ha
      have := hl.2
      rw [List.drop_eq_nil_of_le ha] at this
      simp at this
  have d1 : (as.drop off).take 1 = [x] := by
    rw [List.drop_eq_getElem_cons (List.getElem?_eq_some_iff.1 hx1).1]
    simp [(List.getElem?_eq_some_iff.1 hx1).2]
  have d2 : (bs.drop off).take 1 = [y] := by
    rw [List.drop_eq_getElem_cons (List.getElem?_eq_some_iff.1 hy1).1]
    simp [(List.getElem?_eq_some_iff.1 hy1).2]
  rw [d1, d2] at h
  simp only [aEqKs] at h
  split at h
  case h_2 => cases h
  rename_i u z h1 h2
  obtain rfl := Option.some.inj h
  obtain rfl := Option.some.inj h2
  obtain ⟨v, hv, hv'⟩ := hx.get off x hx1
  obtain ⟨v2, hv2, hv2'⟩ := hy.get off y hy1
  have hagg : aggOf P t = some false := by
    unfold aggOf
    cases k
    · simp only [KdT] at ht; simp [ht]
    · simp only [KdT] at ht; obtain ⟨_, ht⟩ := ht; simp [ht]
    · simp only [KdT] at ht; simp [ht]
  rw [Array.getElem?_toList] at hv hv2
  simp only [eqAt, part, Sem.run_bind, run_agg hagg, Result.andThen_ok, Bool.false_eq_true, if_false, hv, hv2, Sem.run_pure]
  rw [aEqK_run (P := P) h1 hv' hv2' ht d w]
  simp

theorem eqFields_flat {P : Program} {f : TypeId → Option (List Kd)} {d : Nat} {as bs : List AV} {xs ys : Array Value}
    (hf : ∀ u ks, f u = some ks → ∀ off r, aEqKs ks ((as.drop off).take ks.length) ((bs.drop off).take ks.length) = some r → ∀ w, (eqAt d u xs ys off).run P w = .ok r w) :
    ∀ (fs : List Field) (n : Nat) (ks : List Kd), flatFields f fs n = some ks → ∀ r, aEqKs ks ((as.drop n).take ks.length) ((bs.drop n).take ks.length) = some r → ∀ w, (Op.eqFields d xs ys fs).run P w = .ok r w
  | [], n, ks, h, r, hr, w => by
    simp only [flatFields, Option.some.injEq] at h
    subst h
    simp [aEqKs] at hr
    subst hr
    simp [Op.eqFields]
  | fd :: fs, n, ks, h, r, hr, w => by
    simp only [flatFields] at h
    split at h
    case h_2 => cases h
    rename_i k hk
    split at h
    case isFalse => cases h
    rename_i hc
    obtain ⟨ks', hks, rfl⟩ := Option.map_eq_some_iff.1 h
    obtain ⟨r1, r2, e1, e2, rfl⟩ := aEqKs_append hr
    rw [List.take_take, List.take_take, Nat.min_eq_left (by simp)] at e1
    rw [List.drop_take, List.drop_take, List.drop_drop, List.drop_drop, show (k ++ ks').length - k.length = ks'.length from by simp] at e2
    have s1 := hf fd.type k hk n r1 e1 w
    have s2 := eqFields_flat hf fs (n + k.length) ks' hks r2 e2 w
    simp only [Op.eqFields]
    rw [if_pos hc.1]
    simp only [eqAt] at s1
    rw [hc.2]
    have e : ((do
      let a ← part fd.type xs n
      let b ← part fd.type ys n
      let r ← Op.equalIn d fd.type a b
      if (!r) = true then pure false else Op.eqFields d xs ys fs) : Sem Bool) = ((do
      let a ← part fd.type xs n
      let b ← part fd.type ys n
      Op.equalIn d fd.type a b) : Sem Bool) >>= fun r => if (!r) = true then pure false else Op.eqFields d xs ys fs := by
      simp
    rw [e, Sem.run_bind, s1, Result.andThen_ok]
    cases r1
    · simp
    · simpa using s2

theorem eq_flat {P : Program} {ι : Inj} : ∀ (d : Nat) (t : TypeId) (ks : List Kd), flatOf P d t = some ks → ∀ d', d ≤ d' →
    (∀ {as bs : List AV} {xs ys : Array Value}, VRL ι as xs.toList → VRL ι bs ys.toList → ∀ off r, szOf P t = some ks.length → aEqKs ks ((as.drop off).take ks.length) ((bs.drop off).take ks.length) = some r → ∀ w, (eqAt d' t xs ys off).run P w = .ok r w) ∧
    (∀ {as bs : List AV} {xs ys : Array Value}, VRL ι as xs.toList → VRL ι bs ys.toList → ∀ r, (∃ fs, P.underlying t = some (.struct fs)) → aEqKs ks as bs = some r → ∀ w, (Op.equalIn d' t (.agg xs) (.agg ys)).run P w = .ok r w)
  | 0, _, _, h, _, _ => by simp [flatOf] at h
  | d + 1, t, ks, h, d', hd => by
    obtain ⟨d', rfl⟩ : ∃ m, d' = m + 1 := ⟨d' - 1, by omega⟩
    have struct : ∀ {as bs : List AV} {xs ys : Array Value}, VRL ι as xs.toList → VRL ι bs ys.toList → ∀ r, (∃ fs, P.underlying t = some (.struct fs)) → aEqKs ks as bs = some r → ∀ w, (Op.equalIn (d' + 1) t (.agg xs) (.agg ys)).run P w = .ok r w := by
      intro as bs xs ys hx hy r ⟨fs, hu⟩ hr w
      simp only [flatOf, hu] at h
      split at h
      case isFalse => cases h
      rename_i hs
      have hfo : P.fieldsOf t = fs := by simp [Program.fieldsOf, hu]
      rw [run_equalIn_struct w d' t xs ys (by rw [hfo]; exact hu) hs, hfo]
      have hl := aEqKs_length hr
      refine eqFields_flat (as := as) (bs := bs) (f := fun u => (flatOf P d u).bind (sized P u)) ?_ fs.toList 0 ks h r (by rw [List.drop_zero, List.drop_zero, List.take_of_length_le (by omega), List.take_of_length_le (by omega)]; exact hr) w
      intro u ks' hu' off r' hr' w'
      obtain ⟨ks'', h1, h2⟩ := Option.bind_eq_some_iff.1 hu'
      unfold sized at h2
      split at h2
      case isFalse => cases h2
      rename_i hsz
      obtain rfl := Option.some.inj h2
      exact (eq_flat d u ks'' h1 d' (by omega)).1 hx hy off r' hsz hr' w'
    refine ⟨?_, struct⟩
    intro as bs xs ys hx hy off r hsz hr w
    cases hu : P.underlying t with
    | none => simp [flatOf, hu] at h
    | some ds =>
      cases ds with
      | bool =>
        simp only [flatOf, hu, Option.some.injEq] at h
        subst h
        exact eqAt_scalar hx hy hr (by exact hu) d' w
      | int k =>
        simp only [flatOf, hu, Option.some.injEq] at h
        subst h
        exact eqAt_scalar hx hy hr (by exact ⟨k, hu⟩) d' w
      | string =>
        simp only [flatOf, hu, Option.some.injEq] at h
        subst h
        exact eqAt_scalar hx hy hr (by exact hu) d' w
      | struct fs =>
        have hagg : aggOf P t = some true := by simp [aggOf, hu]
        have p1 : ∀ (zs : Array Value) w, (part t zs off).run P w = .ok (.agg (zs.extract off (off + ks.length))) w := by
          intro zs w
          simp [part, run_agg hagg, run_sz hsz]
        simp only [eqAt, Sem.run_bind, p1, Result.andThen_ok]
        refine struct (as := (as.drop off).take ks.length) (bs := (bs.drop off).take ks.length) ?_ ?_ r ⟨fs, hu⟩ hr w
        · rw [Array.toList_extract, List.extract_eq_take_drop, Nat.add_sub_cancel_left]
          exact (hx.drop off).take _
        · rw [Array.toList_extract, List.extract_eq_take_drop, Nat.add_sub_cancel_left]
          exact (hy.drop off).take _
      | _ => simp [flatOf, hu] at h

theorem POk.eqS {P : Program} {o : Oper} {neg : Bool} {t u : TypeId} {fs : Array Field} {ks : List Kd} {x y : Operand} {ax ay : AX} (ho : o.op = .binOp (if neg then .neq else .eql) t x y u) (ht : P.underlying t = some (.struct fs)) (hk : flatOf P 20 t = some ks)
    (hg : P.eqGuardType P.depth t = false) (hx : cX x = some ax) (hy : cX y = some ay) : POk P o (.eqS neg ks ax ay) := by
  intro ι e a w v he hv
  have h1 := cX_VR hx he
  have h2 := cX_VR hy he
  simp only [aP] at hv
  split at hv
  case h_2 => cases hv
  rename_i as bs hc1 hc2
  rw [hc1] at h1
  rw [hc2] at h2
  simp only [VR] at h1 h2
  obtain ⟨xs, h1, h1'⟩ := h1
  obtain ⟨ys, h2, h2'⟩ := h2
  obtain ⟨r, hr, rfl⟩ := Option.map_eq_some_iff.1 hv
  have key := (eq_flat (P := P) 20 t ks hk 10000 (by omega)).2 h1' h2' r ⟨fs, ht⟩ hr w
  have g := fun op => run_eqGuard_agg w op t x y xs ys hg
  refine ⟨.bool (if neg then !r else r), ?_, by simp [VR]⟩
  cases neg
  · simp only [Bool.false_eq_true, if_false] at ho ⊢
    simp only [execOp, ho, h1, h2]
    simp only [Sem.run_bind, g, Result.andThen_ok, run_eql_struct, key, Sem.run_pure]
  · simp only [if_true] at ho ⊢
    simp only [execOp, ho, h1, h2]
    simp only [Sem.run_bind, g, Result.andThen_ok, run_neq_struct, key, Sem.run_pure]

theorem POk.eqB {P : Program} {o : Oper} {neg : Bool} {t u : TypeId} {x y : Operand} {ax ay : AX} (ho : o.op = .binOp (if neg then .neq else .eql) t x y u) (ht : P.underlying t = some .bool)
    (hx : cX x = some ax) (hy : cX y = some ay) : POk P o (.eqB neg ax ay) := by
  intro ι e a w v he hv
  have h1 := cX_VR hx he
  have h2 := cX_VR hy he
  simp only [aP] at hv
  obtain ⟨r, hr, rfl⟩ := Option.map_eq_some_iff.1 hv
  refine ⟨.bool (if neg then !r else r), ?_, by simp [VR]⟩
  have key := aEqK_run (P := P) hr h1 h2 (t := t) (by exact ht) 9999 w
  have hb : ∃ b b', a.eval x = .bool b ∧ a.eval y = .bool b' := by
    revert hr h1 h2
    generalize ax.ev e = p
    generalize ay.ev e = q
    intro h1 h2 hr
    cases p <;> cases q <;> simp only [aEqK] at hr <;> first | (cases hr; done) | skip
    simp only [VR] at h1 h2
    exact ⟨_, _, h1, h2⟩
  obtain ⟨b, b', e1, e2⟩ := hb
  rw [e1, e2] at key
  cases neg
  · simp only [Bool.false_eq_true, if_false] at ho ⊢
    simp only [execOp, ho, e1, e2]
    simp [eqGuard_at_bool, binOp, Op.equal, Op.maxDepth, key]
  · simp only [if_true] at ho ⊢
    simp only [execOp, ho, e1, e2]
    simp [eqGuard_at_bool, binOp, Op.equal, Op.maxDepth, key]

end Go.Proofs.Ytachollgbplikaa
