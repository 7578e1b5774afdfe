/- The abstract machine, ninth part: operations, read off the program. -/
import Derived.Test.YtachollgbplikaaAm8
set_option linter.unusedVariables false
set_option linter.unusedSimpArgs false
namespace Go.Proofs.Ytachollgbplikaa

def OpOk (P : Program) (C : ACalls) (o : Oper) : AOp → Prop
  | .p p => POk P o p
  | .l l => LOk P o l
  | .k k => KOk P o k
  | .n n => NOk P C o n

def cEq (P : Program) (neg : Bool) (t : TypeId) (ax ay : AX) : Option POp :=
  match P.underlying t with
  | some .bool => some (.eqB neg ax ay)
  | some (.struct _) => match flatOf P 20 t with
    | some ks => if P.eqGuardType P.depth t = false then some (.eqS neg ks ax ay) else none
    | none => none
  | some (.pointer el) => match szOf P el with
    | some (_ + 1) => some (.eqP neg ax ay)
    | _ => none
  | some (.slice _) => some (.eqN neg ax ay)
  | _ => none

theorem cEq_ok {P : Program} {C : ACalls} {o : Oper} {neg : Bool} {t u : TypeId} {x y : Operand} {ax ay : AX} (ho : o.op = .binOp (if neg then .neq else .eql) t x y u) (hx : cX x = some ax) (hy : cX y = some ay) {p : POp} (h : cEq P neg t ax ay = some p) : POk P o p := by
  unfold cEq at h
  split at h
  · rename_i hu
    obtain rfl := Option.some.inj h
    exact POk.eqB ho hu hx hy
  · rename_i fs hu
    split at h
    case h_2 => cases h
    rename_i ks hk
    split at h
    case isFalse => cases h
    rename_i hg
    obtain rfl := Option.some.inj h
    exact POk.eqS ho hu hk hg hx hy
  · rename_i el hu
    split at h
    case h_2 => cases h
    rename_i n hn
    obtain rfl := Option.some.inj h
    exact POk.eqP ho hu hn hx hy
  · rename_i el hu
    obtain rfl := Option.some.inj h
    exact POk.eqN ho hu hx hy
  · cases h

def cBin (P : Program) (op : BinOp) (t : TypeId) (ax ay : AX) : Option POp :=
  match P.underlying t with
  | some (.int _) | some .string => some (.bin op ax ay)
  | _ => match op with
    | .eql => cEq P false t ax ay
    | .neq => cEq P true t ax ay
    | _ => none

theorem cBin_ok {P : Program} {C : ACalls} {o : Oper} {op : BinOp} {t u : TypeId} {x y : Operand} {ax ay : AX} (ho : o.op = .binOp op t x y u) (hx : cX x = some ax) (hy : cX y = some ay) {p : POp} (h : cBin P op t ax ay = some p) : POk P o p := by
  unfold cBin at h
  split at h
  · obtain rfl := Option.some.inj h
    exact POk.bin ho hx hy
  · obtain rfl := Option.some.inj h
    exact POk.bin ho hx hy
  · split at h
    · exact cEq_ok (C := C) (neg := false) (by simpa using ho) hx hy h
    · exact cEq_ok (C := C) (neg := true) (by simpa using ho) hx hy h
    · cases h

def cConv (P : Program) (s d : TypeId) (ax : AX) : Option AOp :=
  match P.underlying s, P.underlying d with
  | some .string, some .string => some (.p (.cvStr ax))
  | some .string, some (.slice el) => match P.underlying el with
    | some (.int .u8) => some (.k (.strBytes ax))
    | _ => none
  | some (.slice el), some .string => match P.underlying el with
    | some (.int .u8) => some (.l (.bytesStr ax))
    | _ => none
  | some (.int _), some (.int k) => some (.p (.cvInt k ax))
  | some (.slice el), some (.slice _) => if s = d then match P.underlying el with
      | some (.int .u8) => some (.n (.cvBytes ax))
      | _ => none
    else none
  | _, _ => none

theorem cConv_ok {P : Program} {C : ACalls} {o : Oper} {s d : TypeId} {x : Operand} {ax : AX} (ho : o.op = .convert s d x) (hx : cX x = some ax) {a : AOp} (h : cConv P s d ax = some a) : OpOk P C o a := by
  unfold cConv at h
  split at h
  · rename_i h1 h2
    obtain rfl := Option.some.inj h
    exact POk.cvStr ho h1 h2 hx
  · rename_i el h1 h2
    split at h
    case h_2 => cases h
    rename_i h3
    obtain rfl := Option.some.inj h
    exact KOk.strBytes ho h1 h2 h3 hx
  · rename_i el h1 h2
    split at h
    case h_2 => cases h
    rename_i h3
    obtain rfl := Option.some.inj h
    exact LOk.bytesStr ho h1 h3 h2 hx
  · rename_i k' k h1 h2
    obtain rfl := Option.some.inj h
    exact POk.cvInt ho (by rw [h1]; rfl) h2 hx
  · rename_i el el' h1 h2
    split at h
    case isFalse => cases h
    rename_i hsd
    subst hsd
    split at h
    case h_2 => cases h
    rename_i h3
    obtain rfl := Option.some.inj h
    exact NOk.cvBytes ho h1 h3 hx
  · cases h

def cSlice (P : Program) (t : TypeId) (ax : AX) (lo hi mx : Option AX) : Option POp :=
  match P.underlying t with
  | some .string => match mx with
    | none => some (.sliceStr ax lo hi)
    | some _ => none
  | some (.slice el) => match szOf P el with
    | some n => some (.slice n ax lo hi mx)
    | none => none
  | _ => none

def cAddr (P : Program) (t : TypeId) (ax ai : AX) : Option POp :=
  match P.underlying t with
  | some (.array m el) => match szOf P el with
    | some n => some (.idxArr m n ax ai)
    | none => none
  | some (.slice el) => match szOf P el with
    | some n => some (.idxSlice n ax ai)
    | none => none
  | _ => none

def cIndex (P : Program) (t : TypeId) (ax ai : AX) : Option POp :=
  match P.underlying t with
  | some .string => some (.indexStr ax ai)
  | some (.array m el) => match aggOf P el, szOf P el with
    | some g, some n => some (.index g m n ax ai)
    | _, _ => none
  | _ => none

def cField (P : Program) (t : TypeId) (f : Nat) (addr : Bool) (ax : AX) : Option POp :=
  match P.underlying t with
  | some (.struct fs) => match fs[f]? with
    | some fd => match addr, aggOf P fd.type, szOf P fd.type with
      | true, _, some (_ + 1) => some (.fieldAddr fd.offset ax)
      | false, some g, some n => some (.field g fd.offset n ax)
      | _, _, _ => none
    | none => none
  | _ => none

def cBuildSlice (P : Program) (t : TypeId) (len : Nat) (parts : List (Nat × Operand)) : Option KOp :=
  match P.underlying t with
  | some (.slice el) => match szOf P el, zeroOf P el with
    | some (n + 1), some zero => match cParts (fun i => some (i * (n + 1), n + 1)) parts with
      | some al =>
        let bl := al.zip parts |>.map fun p => (p.2.1, p.1.2.2)
        if len * (n + 1) ≤ 16777216 ∧ zero.length = n + 1 then some (.buildSlice (n + 1) len zero bl) else none
      | none => none
    | _, _ => none
  | _ => none

theorem cBuildSlice_ok {P : Program} {o : Oper} {t : TypeId} {len : Nat} {parts : Array (Nat × Operand)} (ho : o.op = .buildSlice t len parts) {k : KOp} (h : cBuildSlice P t len parts.toList = some k) : KOk P o k := by
  unfold cBuildSlice at h
  split at h
  case h_2 => cases h
  rename_i el hu
  split at h
  case h_2 => cases h
  rename_i n zero hn hz
  split at h
  case h_2 => cases h
  rename_i al hal
  simp only at h
  split at h
  case isFalse => cases h
  rename_i hc
  obtain rfl := Option.some.inj h
  refine KOk.buildSlice ho hu hn (by omega) hc.1 hz hc.2 ?_
  rw [hal]
  congr 1
  clear hz hc h ho
  generalize parts.toList = l at hal
  induction l generalizing al with
  | nil =>
    simp only [cParts, Option.some.injEq] at hal
    subst hal
    rfl
  | cons q l ih =>
    obtain ⟨i, x⟩ := q
    simp only [cParts] at hal
    split at hal
    case h_2 => cases hal
    rename_i p ax al' h1 h2 h3
    obtain rfl := Option.some.inj hal
    obtain rfl := Option.some.inj h1
    simp only [List.zip_cons_cons, List.map_cons]
    rw [← ih _ h3]

def cAppend (P : Program) (t u : TypeId) (ax ay : AX) : Option NOp :=
  match P.underlying t with
  | some (.slice el) => match P.info? el, zeroOf P el with
    | some i, some zero => if 0 < i.size ∧ zero.length = i.size then
        match P.underlying u with
        | some .string | some (.slice _) => some (.append i.size i.bytes ax ay)
        | some (.int _) => some (.appendZ i.size i.bytes zero ax ay)
        | _ => none
      else none
    | _, _ => none
  | _ => none

def cLen (P : Program) (t : TypeId) (ax : AX) : Option POp :=
  match P.underlying t with
  | some .string => some (.len true ax)
  | some (.slice _) => some (.len false ax)
  | some (.array n _) => some (.move (.c (.int .i64 n)))
  | _ => none

def cCall (P : Program) (c : Call) : Option AOp :=
  match c with
  | ⟨.value f, args, _⟩ => match cX f, cXs args.toList with
    | some af, some al => some (.n (.call af al))
    | _, _ => none
  | ⟨.builtin .len, ⟨[x]⟩, ⟨[t]⟩⟩ => (cX x).bind fun ax => (cLen P t ax).map .p
  | ⟨.builtin .cap, ⟨[x]⟩, ⟨[t]⟩⟩ => match P.underlying t with
    | some (.slice _) => (cX x).map fun ax => .p (.cap ax)
    | _ => none
  | ⟨.builtin .append, ⟨[x, y]⟩, ⟨[t, u]⟩⟩ => match cX x, cX y with
    | some ax, some ay => (cAppend P t u ax ay).map .n
    | _, _ => none
  | ⟨.builtin .copy, ⟨[x, y]⟩, ⟨[t, u]⟩⟩ => match cX x, cX y, P.underlying t with
    | some ax, some ay, some (.slice el) => (szOf P el).map fun n => .n (.copy n ax ay)
    | _, _, _ => none
  | ⟨.builtin .clear, ⟨[x]⟩, ⟨[t]⟩⟩ => match cX x, P.underlying t with
    | some ax, some (.slice el) => match szOf P el, zeroOf P el with
      | some n, some zero => if zero.length = n then some (.n (.clear n zero ax)) else none
      | _, _ => none
    | _, _ => none
  | ⟨.builtin .max, args, _⟩ => (cXs args.toList).map fun al => .p (.minmax true al)
  | ⟨.builtin .min, args, _⟩ => (cXs args.toList).map fun al => .p (.minmax false al)
  | _ => none

theorem cCall_ok {P : Program} {C : ACalls} (hC : CallsOk P C) {o : Oper} {c : Call} (ho : o.op = .call c) {a : AOp} (h : cCall P c = some a) : OpOk P C o a := by
  unfold cCall at h
  split at h
  · rename_i f args ts
    split at h
    case h_2 => cases h
    rename_i af al h1 h2
    obtain rfl := Option.some.inj h
    exact NOk.call hC ho h1 h2
  · rename_i x t
    obtain ⟨ax, hx, h⟩ := Option.bind_eq_some_iff.1 h
    obtain ⟨p, hp, rfl⟩ := Option.map_eq_some_iff.1 h
    unfold cLen at hp
    split at hp
    · rename_i hu
      obtain rfl := Option.some.inj hp
      exact POk.lenStr ho hu hx
    · rename_i hu
      obtain rfl := Option.some.inj hp
      exact POk.lenSlice ho hu hx
    · rename_i hu
      obtain rfl := Option.some.inj hp
      exact POk.lenArr ho hu
    · cases hp
  · rename_i x t
    split at h
    case h_2 => cases h
    rename_i hu
    obtain ⟨ax, hx, rfl⟩ := Option.map_eq_some_iff.1 h
    exact POk.cap ho hu hx
  · rename_i x y t u
    split at h
    case h_2 => cases h
    rename_i ax ay hx hy
    obtain ⟨n, hn, rfl⟩ := Option.map_eq_some_iff.1 h
    unfold cAppend at hn
    split at hn
    case h_2 => cases hn
    rename_i el hu
    split at hn
    case h_2 => cases hn
    rename_i i zero hi hz
    split at hn
    case isFalse => cases hn
    rename_i hc
    split at hn
    · rename_i hv
      obtain rfl := Option.some.inj hn
      exact NOk.append ho hu (.inl hv) hi hc.1 hz hc.2 hx hy
    · rename_i e' hv
      obtain rfl := Option.some.inj hn
      exact NOk.append ho hu (.inr ⟨_, hv⟩) hi hc.1 hz hc.2 hx hy
    · rename_i k hv
      obtain rfl := Option.some.inj hn
      exact NOk.appendZ ho hu ⟨_, hv⟩ hi hc.1 hz hc.2 hx hy
    · cases hn
  · rename_i x y t u
    split at h
    case h_2 => cases h
    rename_i ax ay el hx hy hu
    obtain ⟨n, hn, rfl⟩ := Option.map_eq_some_iff.1 h
    exact NOk.copy ho hu hn hx hy
  · rename_i x t
    split at h
    case h_2 => cases h
    rename_i ax el hx hu
    split at h
    case h_2 => cases h
    rename_i n zero hn hz
    split at h
    case isFalse => cases h
    rename_i hc
    obtain rfl := Option.some.inj h
    exact NOk.clear ho hu hn hz hc hx
  · rename_i args ts
    obtain ⟨al, hal, rfl⟩ := Option.map_eq_some_iff.1 h
    exact POk.minmax (isMax := true) (by simpa using ho) hal
  · rename_i args ts
    obtain ⟨al, hal, rfl⟩ := Option.map_eq_some_iff.1 h
    exact POk.minmax (isMax := false) (by simpa using ho) hal
  · cases h

theorem cXo_none {m : Option Operand} (h : cXo m = some none) : m = none := by
  cases m with
  | none => rfl
  | some m =>
    simp only [cXo] at h
    obtain ⟨_, _, h5⟩ := Option.map_eq_some_iff.1 h
    cases h5

def cOp? (P : Program) (op : Op) : Option AOp :=
  match op with
  | .move x | .assign x => (cX x).map fun x => .p (.move x)
  | .pick c a b => match cX c, cX a, cX b with
    | some c, some a, some b => some (.p (.pick c a b))
    | _, _, _ => none
  | .alloc t => (zeroOf P t).map fun z => .k (.alloc z)
  | .box _ x => (cX x).map fun x => .k (.box x)
  | .build t parts => if buildable P t then (match zeroOf P t, cParts (placeOf P t) parts.toList with
    | some z, some al => some (.p (.build z al))
    | _, _ => none) else none
  | .buildSlice t len parts => (cBuildSlice P t len parts.toList).map .k
  | .load t x => match aggOf P t, szOf P t, cX x with
    | some g, some n, some x => some (.l (.load g n x))
    | _, _, _ => none
  | .store t x y => match szOf P t, cX x, cX y with
    | some n, some x, some y => some (.n (.store n x y))
    | _, _, _ => none
  | .nilCheck x => (cX x).map fun x => .p (.nilCheck x)
  | .binOp op t x y _ => match cX x, cX y with
    | some x, some y => (cBin P op t x y).map .p
    | _, _ => none
  | .unOp op _ x => (cX x).map fun x => .p (.un op x)
  | .convert s d x => (cX x).bind fun x => cConv P s d x
  | .makeFunc (.func f) ⟨[]⟩ caps => (cXs caps.toList).map fun l => .p (.mkFunc f l)
  | .makeMap _ none => some (.k .makeMap)
  | .makeSlice t l c => match P.underlying t with
    | some (.slice el) => match P.info? el, zeroOf P el, cX l, cX c with
      | some i, some z, some l, some c => if 0 < i.size ∧ z.length = i.size then some (.k (.makeSlice i.size i.bytes z l c)) else none
      | _, _, _, _ => none
    | _ => none
  | .slice t x lo hi mx => match cX x, cXo lo, cXo hi, cXo mx with
    | some x, some lo, some hi, some mx => (cSlice P t x lo hi mx).map .p
    | _, _, _, _ => none
  | .fieldAddr t x f => (cX x).bind fun x => (cField P t f true x).map .p
  | .field t x f => (cX x).bind fun x => (cField P t f false x).map .p
  | .indexAddr t x i => match cX x, cX i with
    | some x, some i => (cAddr P t x i).map .p
    | _, _ => none
  | .index t x i => match cX x, cX i with
    | some x, some i => (cIndex P t x i).map .p
    | _, _ => none
  | .extract x i => (cX x).map fun x => .p (.extract x i)
  | .call c => cCall P c
  | _ => none

theorem cOp?_ok {P : Program} {C : ACalls} (hC : CallsOk P C) {o : Oper} {a : AOp} (h : cOp? P o.op = some a) : OpOk P C o a := by
  generalize ho : o.op = op at h
  unfold cOp? at h
  split at h
  · obtain ⟨x, hx, rfl⟩ := Option.map_eq_some_iff.1 h
    exact POk.move (.inl ho) hx
  · obtain ⟨x, hx, rfl⟩ := Option.map_eq_some_iff.1 h
    exact POk.move (.inr ho) hx
  · split at h
    case h_2 => cases h
    rename_i h1 h2 h3
    obtain rfl := Option.some.inj h
    exact POk.pick ho h1 h2 h3
  · obtain ⟨x, hx, rfl⟩ := Option.map_eq_some_iff.1 h
    exact KOk.alloc ho hx
  · obtain ⟨x, hx, rfl⟩ := Option.map_eq_some_iff.1 h
    exact KOk.box ho hx
  · split at h
    case isFalse => cases h
    rename_i hb
    split at h
    case h_2 => cases h
    rename_i h1 h2
    obtain rfl := Option.some.inj h
    exact POk.build ho hb h1 h2
  · obtain ⟨x, hx, rfl⟩ := Option.map_eq_some_iff.1 h
    exact cBuildSlice_ok ho hx
  · split at h
    case h_2 => cases h
    rename_i h1 h2 h3
    obtain rfl := Option.some.inj h
    exact LOk.load ho h1 h2 h3
  · split at h
    case h_2 => cases h
    rename_i h1 h2 h3
    obtain rfl := Option.some.inj h
    exact NOk.store ho h1 h2 h3
  · obtain ⟨x, hx, rfl⟩ := Option.map_eq_some_iff.1 h
    exact POk.nilCheck ho hx
  · split at h
    case h_2 => cases h
    rename_i h1 h2
    obtain ⟨p, hp, rfl⟩ := Option.map_eq_some_iff.1 h
    exact cBin_ok (C := C) ho h1 h2 hp
  · obtain ⟨x, hx, rfl⟩ := Option.map_eq_some_iff.1 h
    exact POk.un ho hx
  · obtain ⟨x, hx, h⟩ := Option.bind_eq_some_iff.1 h
    exact cConv_ok ho hx h
  · obtain ⟨x, hx, rfl⟩ := Option.map_eq_some_iff.1 h
    exact POk.mkFunc ho hx
  · obtain rfl := Option.some.inj h
    exact KOk.makeMap ho
  · split at h
    case h_2 => cases h
    rename_i hu
    split at h
    case h_2 => cases h
    rename_i h1 h2 h3 h4
    split at h
    case isFalse => cases h
    rename_i hc
    obtain rfl := Option.some.inj h
    exact KOk.makeSlice ho hu h1 hc.1 h2 hc.2 h3 h4
  · split at h
    case h_2 => cases h
    rename_i h1 h2 h3 h4
    obtain ⟨p, hp, rfl⟩ := Option.map_eq_some_iff.1 h
    unfold cSlice at hp
    split at hp
    · rename_i hu
      split at hp
      · obtain rfl := Option.some.inj hp
        obtain rfl := cXo_none h4
        exact POk.sliceStr ho hu h1 h2 h3
      · cases hp
    · rename_i hu
      split at hp
      case h_2 => cases hp
      rename_i hn
      obtain rfl := Option.some.inj hp
      exact POk.slice ho hu hn h1 h2 h3 h4
    · cases hp
  · obtain ⟨x, hx, h⟩ := Option.bind_eq_some_iff.1 h
    obtain ⟨p, hp, rfl⟩ := Option.map_eq_some_iff.1 h
    unfold cField at hp
    split at hp
    case h_2 => cases hp
    rename_i hu
    split at hp
    case h_2 => cases hp
    rename_i fd hf
    split at hp
    · rename_i hn
      obtain rfl := Option.some.inj hp
      exact POk.fieldAddr ho hu hf hn hx
    · contradiction
    · cases hp
  · obtain ⟨x, hx, h⟩ := Option.bind_eq_some_iff.1 h
    obtain ⟨p, hp, rfl⟩ := Option.map_eq_some_iff.1 h
    unfold cField at hp
    split at hp
    case h_2 => cases hp
    rename_i hu
    split at hp
    case h_2 => cases hp
    rename_i fd hf
    split at hp
    · contradiction
    · rename_i hg hn
      obtain rfl := Option.some.inj hp
      exact POk.field ho hu hf hg hn hx
    · cases hp
  · split at h
    case h_2 => cases h
    rename_i h1 h2
    obtain ⟨p, hp, rfl⟩ := Option.map_eq_some_iff.1 h
    unfold cAddr at hp
    split at hp
    · rename_i hu
      split at hp
      case h_2 => cases hp
      rename_i hn
      obtain rfl := Option.some.inj hp
      exact POk.idxArr ho hu hn h1 h2
    · rename_i hu
      split at hp
      case h_2 => cases hp
      rename_i hn
      obtain rfl := Option.some.inj hp
      exact POk.idxSlice ho hu hn h1 h2
    · cases hp
  · split at h
    case h_2 => cases h
    rename_i h1 h2
    obtain ⟨p, hp, rfl⟩ := Option.map_eq_some_iff.1 h
    unfold cIndex at hp
    split at hp
    · rename_i hu
      obtain rfl := Option.some.inj hp
      exact POk.indexStr ho hu h1 h2
    · rename_i hu
      split at hp
      case h_2 => cases hp
      rename_i hg hn
      obtain rfl := Option.some.inj hp
      exact POk.index ho hu hg hn h1 h2
    · cases hp
  · obtain ⟨x, hx, rfl⟩ := Option.map_eq_some_iff.1 h
    exact POk.extract ho hx
  · exact cCall_ok hC ho h
  · cases h

def cOp (P : Program) (op : Op) : AOp := (cOp? P op).getD (.n .fail)

theorem cOp_ok {P : Program} {C : ACalls} (hC : CallsOk P C) (o : Oper) : OpOk P C o (cOp P o.op) := by
  unfold cOp
  cases h : cOp? P o.op with
  | none => exact NOk.fail
  | some a => exact cOp?_ok hC h

end Go.Proofs.Ytachollgbplikaa
