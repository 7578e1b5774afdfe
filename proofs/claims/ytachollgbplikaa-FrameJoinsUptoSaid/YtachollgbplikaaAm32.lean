/- V, eighth part: words for running its code symbolically by simp. -/
import Derived.Test.YtachollgbplikaaAm31
set_option linter.all false
set_option linter.unusedSimpArgs false
namespace Go.Proofs.Ytachollgbplikaa
noncomputable section

/-! ### One thing at a time: what comes next is code, not a function, so simp has nothing else to look at -/

def vst (n : Nat) (dst : Option Nat) (l : Fast) (x : Option (AV × Heap)) : Option (Fast × Heap) := match x with
  | some p => some (bput n dst p.1 l, p.2)
  | none => none
theorem vst_some (n : Nat) (dst : Option Nat) (l : Fast) (v : AV) (H : Heap) : vst n dst l (some (v, H)) = some (bput n dst v l, H) := rfl

def vgd (n : Nat) (dst : Option Nat) (l : Fast) (H : Heap) (w : Option Bool) (x : Option (AV × Heap)) : Option (Fast × Heap) := match w with
  | some true => vst n dst l x
  | some false => some (bput n dst (.tuple []) l, H)
  | none => none
theorem vgd_true (n : Nat) (dst : Option Nat) (l : Fast) (H : Heap) (x : Option (AV × Heap)) : vgd n dst l H (some true) x = vst n dst l x := rfl
theorem vgd_false (n : Nat) (dst : Option Nat) (l : Fast) (H : Heap) (x : Option (AV × Heap)) : vgd n dst l H (some false) x = some (bput n dst (.tuple []) l, H) := rfl

def vgo (C : VCalls) (fr : Fr) (n : Nat) (r : List AOper) (x : Option (Fast × Heap)) : Option (Fast × Heap) := match x with
  | some p => vops C fr n r p.1 p.2
  | none => none
theorem vgo_nil (C : VCalls) (fr : Fr) (n : Nat) (l : Fast) (H : Heap) : vgo C fr n [] (some (l, H)) = some (l, H) := rfl
theorem vgo_cons (C : VCalls) (fr : Fr) (n : Nat) (dst : Option Nat) (op : AOp) (r : List AOper) (l : Fast) (H : Heap) :
    vgo C fr n ({ dst := dst, op := op, guard := none } :: r) (some (l, H)) = vgo C fr n r (vst n dst l (vop C fr (op.sub (look l)) H)) := by
  simp only [vgo, vops, bwanted, vst]
  cases vop C fr (op.sub (look l)) H <;> rfl
theorem vgo_guard (C : VCalls) (fr : Fr) (n : Nat) (dst : Option Nat) (op : AOp) (t : Nat) (want : Bool) (r : List AOper) (l : Fast) (H : Heap) :
    vgo C fr n ({ dst := dst, op := op, guard := some (t, want) } :: r) (some (l, H)) = vgo C fr n r (vgd n dst l H (bwanted (some (t, want)) l) (vop C fr (op.sub (look l)) H)) := by
  simp only [vgo, vops, vgd, vst]
  cases bwanted (some (t, want)) l with
  | none => rfl
  | some b => cases b with
    | false => rfl
    | true => cases vop C fr (op.sub (look l)) H <;> rfl

theorem bwanted_bool {t : Nat} {want b : Bool} {l : Fast} (h : look l t = .bool b) : bwanted (some (t, want)) l = some (b == want) := by simp only [bwanted, h]
theorem bwanted_some (t : Nat) (want : Bool) (l : Fast) : bwanted (some (t, want)) l = match look l t with
    | .bool b => some (b == want)
    | .tuple _ => some false
    | _ => none := rfl

theorem vop_p (C : VCalls) (fr : Fr) (o : POp) (H : Heap) : vop C fr (.p o) H = (vP o).map fun v => (v, H) := rfl
theorem vop_l (C : VCalls) (fr : Fr) (o : LOp) (H : Heap) : vop C fr (.l o) H = (vL o H).map fun v => (v, H) := rfl
theorem vop_k (C : VCalls) (fr : Fr) (o : KOp) (H : Heap) : vop C fr (.k o) H = (vK o).map fun r => (r.2.val H.next, H.push r.1) := rfl
theorem vop_n (C : VCalls) (fr : Fr) (o : NOp) (H : Heap) : vop C fr (.n o) H = vN C fr o H := rfl

def vnorm (x : Option (Fast × Heap)) : BOut := match x with
  | some p => some (.normal, p)
  | none => none
theorem vnorm_some (p : Fast × Heap) : vnorm (some p) = some (.normal, p) := rfl
def vseqc (C : VCalls) (K : Nat) (fr : Fr) (n : Nat) (b : VCode) (x : BOut) : BOut := match x with
  | some (.normal, l, H) => vexec C K fr n b l H
  | r => r
theorem vseqc_normal (C : VCalls) (K : Nat) (fr : Fr) (n : Nat) (b : VCode) (l : Fast) (H : Heap) : vseqc C K fr n b (some (.normal, l, H)) = vexec C K fr n b l H := rfl
theorem vseqc_exit (C : VCalls) (K : Nat) (fr : Fr) (n : Nat) (b : VCode) (i : Nat) (l : Fast) (H : Heap) : vseqc C K fr n b (some (.exit i, l, H)) = some (.exit i, l, H) := rfl
theorem vseqc_ret (C : VCalls) (K : Nat) (fr : Fr) (n : Nat) (b : VCode) (l : Fast) (H : Heap) : vseqc C K fr n b (some (.ret, l, H)) = some (.ret, l, H) := rfl
def vcondc (C : VCalls) (K : Nat) (fr : Fr) (n : Nat) (a b : VCode) (l : Fast) (H : Heap) (v : AV) : BOut := match v with
  | .bool true => vexec C K fr n a l H
  | .bool false => vexec C K fr n b l H
  | _ => none
theorem vcondc_true (C : VCalls) (K : Nat) (fr : Fr) (n : Nat) (a b : VCode) (l : Fast) (H : Heap) : vcondc C K fr n a b l H (.bool true) = vexec C K fr n a l H := rfl
theorem vcondc_false (C : VCalls) (K : Nat) (fr : Fr) (n : Nat) (a b : VCode) (l : Fast) (H : Heap) : vcondc C K fr n a b l H (.bool false) = vexec C K fr n b l H := rfl
theorem vexec_skip (C : VCalls) (K : Nat) (fr : Fr) (n : Nat) (l : Fast) (H : Heap) : vexec C K fr n .skip l H = some (.normal, l, H) := rfl
theorem vexec_exit (C : VCalls) (K : Nat) (fr : Fr) (n : Nat) (i : Nat) (l : Fast) (H : Heap) : vexec C K fr n (.exit i) l H = some (.exit i, l, H) := rfl
theorem vexec_ret (C : VCalls) (K : Nat) (fr : Fr) (n : Nat) (l : Fast) (H : Heap) : vexec C K fr n .ret l H = some (.ret, l, H) := rfl
theorem vexec_reg (C : VCalls) (K : Nat) (fr : Fr) (n : Nat) (ops : List AOper) (l : Fast) (H : Heap) : vexec C K fr n (.reg ops) l H = vnorm (vgo C fr n ops (some (l, H))) := by
  simp only [vexec, vnorm, vgo]; cases vops C fr n ops l H <;> rfl
theorem vexec_seq (C : VCalls) (K : Nat) (fr : Fr) (n : Nat) (a b : VCode) (l : Fast) (H : Heap) : vexec C K fr n (.seq a b) l H = vseqc C K fr n b (vexec C K fr n a l H) := rfl
theorem vexec_cond (C : VCalls) (K : Nat) (fr : Fr) (n : Nat) (c : AX) (a b : VCode) (l : Fast) (H : Heap) : vexec C K fr n (.cond c a b) l H = vcondc C K fr n a b l H ((c.sub (look l)).ev []) := rfl
def blockO (id : Nat) (x : BOut) : BOut := match x with
  | some (.exit i, l', H') => if i = id then some (.normal, l', H') else some (.exit i, l', H')
  | r => r
theorem blockO_exit (id i : Nat) (l : Fast) (H : Heap) : blockO id (some (.exit i, l, H)) = if i = id then some (.normal, l, H) else some (.exit i, l, H) := rfl
theorem blockO_normal (id : Nat) (l : Fast) (H : Heap) : blockO id (some (.normal, l, H)) = some (.normal, l, H) := rfl
theorem blockO_ret (id : Nat) (l : Fast) (H : Heap) : blockO id (some (.ret, l, H)) = some (.ret, l, H) := rfl
theorem vexec_block (C : VCalls) (K : Nat) (fr : Fr) (n id : Nat) (c : VCode) (l : Fast) (H : Heap) : vexec C K fr n (.block id c) l H = blockO id (vexec C K fr n c l H) := rfl

def vfin (frozen : Bool) (zs : List Nat) (fr : Fr) (H : Heap) (x : Option AV) : Option (AV × Heap) := match x with
  | some v => vexit frozen zs fr v H
  | none => none
theorem vfin_some (frozen : Bool) (zs : List Nat) (fr : Fr) (H : Heap) (v : AV) : vfin frozen zs fr H (some v) = vexit frozen zs fr v H := rfl
def vend (rs : List ARes) (frozen : Bool) (zs : List Nat) (fr : Fr) (x : BOut) : Option (AV × Heap) := match x with
  | some (.normal, l, H) => vfin frozen zs fr H (vResults rs l H)
  | some (.ret, l, H) => vfin frozen zs fr H (vResults rs l H)
  | _ => none
theorem vend_normal (rs : List ARes) (frozen : Bool) (zs : List Nat) (fr : Fr) (l : Fast) (H : Heap) : vend rs frozen zs fr (some (.normal, l, H)) = vfin frozen zs fr H (vResults rs l H) := rfl
theorem vend_ret (rs : List ARes) (frozen : Bool) (zs : List Nat) (fr : Fr) (l : Fast) (H : Heap) : vend rs frozen zs fr (some (.ret, l, H)) = vfin frozen zs fr H (vResults rs l H) := rfl
/-- A body that is run. -/
theorem vbody_eq (C : VCalls) (K : Nat) (f : VFunc) (args : List AV) (H : Heap) (fr : Fr) (h1 : args.length = f.nargs) (h2 : f.nargs ≤ f.ntmps) :
    vbody C K f args H fr = vend f.results f.frozen f.rz fr (vexec C K fr f.ntmps f.code (start 0 (args ++ List.replicate (f.ntmps - f.nargs) (.tuple []))) H) := by
  simp only [vbody, vend]
  rw [if_pos ⟨h1, h2⟩]
  cases vexec C K fr f.ntmps f.code (start 0 (args ++ List.replicate (f.ntmps - f.nargs) (.tuple []))) H with
  | none => rfl
  | some r =>
    obtain ⟨x, l, H'⟩ := r
    cases x with
    | exit i => rfl
    | normal => simp only [vfin]; cases vResults f.results l H' <;> rfl
    | ret => simp only [vfin]; cases vResults f.results l H' <;> rfl

/-! ### Drawn regions -/

def Heap.room (H : Heap) (n : Nat) : Heap := { H with next := H.next + n }
theorem room_zero (H : Heap) : H.room 0 = H := rfl
theorem room_put (H : Heap) (k i : Nat) (x : Blk) (h : i = H.next) : (H.room (k + 1)).put i (some x) = (H.push x).room k := by
  subst h
  simp only [Heap.room, Heap.put, Heap.push, Heap.mk.injEq, true_and]
  omega
theorem get_room (H : Heap) (k b : Nat) : (H.room k).get b = H.get b := id rfl
theorem next_room (H : Heap) (k : Nat) : (H.room k).next = H.next + k := id rfl
theorem get_hide (H : Heap) (base n b : Nat) : (H.hide base n).get b = if base ≤ b ∧ b < base + n then none else H.get b := rfl
theorem hide_zero (H : Heap) (base : Nat) : H.hide base 0 = H := by
  cases H with
  | mk get next =>
    simp only [Heap.hide, Heap.mk.injEq, and_true]
    funext i
    rw [if_neg (by omega)]

abbrev DSt := Fast × Heap × List Heap × List (Nat × Nat)

def vdgo (C : VCalls) (fr : Fr) (n base nk : Nat) (r : List DOper) (x : Option DSt) : Option (Fast × Heap) := match x with
  | some p => vdops C fr n base nk r p.1 p.2.1 p.2.2.1 p.2.2.2
  | none => none
def vdp (n : Nat) (dst : Option Nat) (l : Fast) (H : Heap) (hist : List Heap) (bt : List (Nat × Nat)) (x : Option AV) : Option DSt := match x with
  | some v => some (bput n dst v l, H, hist, bt)
  | none => none
theorem vdp_some (n : Nat) (dst : Option Nat) (l : Fast) (H : Heap) (hist : List Heap) (bt : List (Nat × Nat)) (v : AV) : vdp n dst l H hist bt (some v) = some (bput n dst v l, H, hist, bt) := rfl
def vdl (n base nk lo : Nat) (o : LOp) (dst : Option Nat) (l : Fast) (H : Heap) (hist : List Heap) (bt bt' : List (Nat × Nat)) (x : Option AV) : Option DSt := match x with
  | some v => if (hist.isEmpty || thawed H base nk || (ofList l o && bornL bt o == 0 && known v)) && ((hist.drop lo).isEmpty || loadOk base nk l bt lo o v (hist.drop lo)) then some (bput n dst v l, H, hist, bt') else none
  | none => none
theorem vdl_some (n base nk lo : Nat) (o : LOp) (dst : Option Nat) (l : Fast) (H : Heap) (hist : List Heap) (bt bt' : List (Nat × Nat)) (v : AV) :
    vdl n base nk lo o dst l H hist bt bt' (some v) = if (hist.isEmpty || thawed H base nk || (ofList l o && bornL bt o == 0 && known v)) && ((hist.drop lo).isEmpty || loadOk base nk l bt lo o v (hist.drop lo)) then some (bput n dst v l, H, hist, bt') else none := rfl
def vdk (n base nk ix : Nat) (dst : Option Nat) (l : Fast) (H : Heap) (hist : List Heap) (bt : List (Nat × Nat)) (x : Option (Blk × Mk)) : Option DSt := match x with
  | some p => if ix < nk ∧ (hist.isEmpty || thawed H (base + ix) 1) = true then some (bput n dst (p.2.val (base + ix)) l, H.put (base + ix) (some p.1), hist, bt) else none
  | none => none
theorem vdk_some (n base nk ix : Nat) (dst : Option Nat) (l : Fast) (H : Heap) (hist : List Heap) (bt : List (Nat × Nat)) (b : Blk) (mk : Mk) :
    vdk n base nk ix dst l H hist bt (some (b, mk)) = if ix < nk ∧ (hist.isEmpty || thawed H (base + ix) 1) = true then some (bput n dst (mk.val (base + ix)) l, H.put (base + ix) (some b), hist, bt) else none := rfl
def vdn (n : Nat) (dst : Option Nat) (l : Fast) (H : Heap) (hist : List Heap) (bt : List (Nat × Nat)) (x : Option (AV × Heap)) : Option DSt := match x with
  | some p => some (bput n dst p.1 l, p.2, hist ++ [H], bt)
  | none => none
theorem vdn_some (n : Nat) (dst : Option Nat) (l : Fast) (H : Heap) (hist : List Heap) (bt : List (Nat × Nat)) (v : AV) (H' : Heap) : vdn n dst l H hist bt (some (v, H')) = some (bput n dst v l, H', hist ++ [H], bt) := rfl
def vdw (w : Option Bool) (x y : Option DSt) : Option DSt := match w with
  | some true => x
  | some false => y
  | none => none
theorem vdw_true (x y : Option DSt) : vdw (some true) x y = x := rfl
theorem vdw_false (x y : Option DSt) : vdw (some false) x y = y := rfl

section
variable (C : VCalls) (fr : Fr) (n base nk : Nat) (dst : Option Nat) (lo ix : Nat) (r : List DOper) (l : Fast) (H : Heap) (hist : List Heap) (bt : List (Nat × Nat)) (t : Nat) (want : Bool)
theorem vdgo_nil : vdgo C fr n base nk [] (some (l, H, hist, bt)) = some (l, H) := rfl
theorem vdgo_p (o : POp) : vdgo C fr n base nk ({ o := { dst := dst, op := .p o, guard := none }, lo := lo, ix := ix } :: r) (some (l, H, hist, bt)) =
    vdgo C fr n base nk r (vdp n dst l H hist (bornPut n dst (bornP bt hist.length o) bt) (vP (o.sub (look l)))) := by
  simp only [vdgo, vdops, bwanted, vdp]
  cases vP (o.sub (look l)) <;> rfl
theorem vdgo_l (o : LOp) : vdgo C fr n base nk ({ o := { dst := dst, op := .l o, guard := none }, lo := lo, ix := ix } :: r) (some (l, H, hist, bt)) =
    vdgo C fr n base nk r (vdl n base nk lo o dst l H hist bt (bornPut n dst hist.length bt) (vL (o.sub (look l)) (H.hide base nk))) := by
  simp only [vdgo, vdops, bwanted, vdl]
  cases vL (o.sub (look l)) (H.hide base nk) with
  | none => rfl
  | some v => simp only; split <;> rfl
theorem vdgo_k (o : KOp) : vdgo C fr n base nk ({ o := { dst := dst, op := .k o, guard := none }, lo := lo, ix := ix } :: r) (some (l, H, hist, bt)) =
    vdgo C fr n base nk r (vdk n base nk ix dst l H hist (bornPut n dst hist.length bt) (vK (o.sub (look l)))) := by
  simp only [vdgo, vdops, bwanted, vdk]
  cases vK (o.sub (look l)) with
  | none => rfl
  | some v => simp only; split <;> rfl
theorem vdgo_n (o : NOp) : vdgo C fr n base nk ({ o := { dst := dst, op := .n o, guard := none }, lo := lo, ix := ix } :: r) (some (l, H, hist, bt)) =
    vdgo C fr n base nk r (vdn n dst l H hist (bornPut n dst (hist.length + 1) bt) (vN C fr (o.sub (look l)) H)) := by
  simp only [vdgo, vdops, bwanted, vdn]
  cases vN C fr (o.sub (look l)) H <;> rfl
theorem vdgo_gp (o : POp) : vdgo C fr n base nk ({ o := { dst := dst, op := .p o, guard := some (t, want) }, lo := lo, ix := ix } :: r) (some (l, H, hist, bt)) =
    vdgo C fr n base nk r (vdw (bwanted (some (t, want)) l) (vdp n dst l H hist (bornPut n dst (bornP bt hist.length o) bt) (vP (o.sub (look l)))) (some (bput n dst (.tuple []) l, H, hist, bornPut n dst hist.length bt))) := by
  simp only [vdgo, vdops, vdp, vdw]
  cases bwanted (some (t, want)) l with
  | none => rfl
  | some b => cases b with
    | false => rfl
    | true => simp only; cases vP (o.sub (look l)) <;> rfl
theorem vdgo_gl (o : LOp) : vdgo C fr n base nk ({ o := { dst := dst, op := .l o, guard := some (t, want) }, lo := lo, ix := ix } :: r) (some (l, H, hist, bt)) =
    vdgo C fr n base nk r (vdw (bwanted (some (t, want)) l) (vdl n base nk lo o dst l H hist bt (bornPut n dst hist.length bt) (vL (o.sub (look l)) (H.hide base nk))) (some (bput n dst (.tuple []) l, H, hist, bornPut n dst hist.length bt))) := by
  simp only [vdgo, vdops, vdl, vdw]
  cases bwanted (some (t, want)) l with
  | none => rfl
  | some b => cases b with
    | false => rfl
    | true =>
      simp only
      cases vL (o.sub (look l)) (H.hide base nk) with
      | none => rfl
      | some v => simp only; split <;> rfl
theorem vdgo_gk (o : KOp) : vdgo C fr n base nk ({ o := { dst := dst, op := .k o, guard := some (t, want) }, lo := lo, ix := ix } :: r) (some (l, H, hist, bt)) =
    vdgo C fr n base nk r (vdw (bwanted (some (t, want)) l) (vdk n base nk ix dst l H hist (bornPut n dst hist.length bt) (vK (o.sub (look l)))) (some (bput n dst (.tuple []) l, H, hist, bornPut n dst hist.length bt))) := by
  simp only [vdgo, vdops, vdk, vdw]
  cases bwanted (some (t, want)) l with
  | none => rfl
  | some b => cases b with
    | false => rfl
    | true =>
      simp only
      cases vK (o.sub (look l)) with
      | none => rfl
      | some v => simp only; split <;> rfl
theorem vdgo_gn (o : NOp) : vdgo C fr n base nk ({ o := { dst := dst, op := .n o, guard := some (t, want) }, lo := lo, ix := ix } :: r) (some (l, H, hist, bt)) =
    vdgo C fr n base nk r (vdw (bwanted (some (t, want)) l) (vdn n dst l H hist (bornPut n dst (hist.length + 1) bt) (vN C fr (o.sub (look l)) H)) (some (bput n dst (.tuple []) l, H, hist ++ [H], bornPut n dst (hist.length + 1) bt))) := by
  simp only [vdgo, vdops, vdn, vdw]
  cases bwanted (some (t, want)) l with
  | none => rfl
  | some b => cases b with
    | false => rfl
    | true => simp only; cases vN C fr (o.sub (look l)) H <;> rfl
end
theorem vexec_dreg (C : VCalls) (K : Nat) (fr : Fr) (n nk : Nat) (ops : List DOper) (l : Fast) (H : Heap) : vexec C K fr n (.dreg nk ops) l H = vnorm (vdgo C fr n H.next nk ops (some (l, H.room nk, [], []))) := by
  simp only [vexec, vnorm, vdgo, Heap.room]
  cases vdops C fr n H.next nk ops l { H with next := H.next + nk } [] [] <;> rfl

def outO (g : Bool) (zs : List Nat) (fr : Fr) (keep out : List Nat) (x : BOut) : Option ((Fast × Heap) ⊕ (Ex × Fast × Heap)) :=
  match x with
  | some (.normal, l', H') => some (.inl (vkeep g zs fr l' keep H'))
  | some (.exit i, l', H') => some (.inr (.exit i, vkeep g (zs.drop keep.length) fr l' out H'))
  | some (.ret, l', H') => some (.inr (.ret, vkeep g (zs.drop keep.length) fr l' out H'))
  | none => none
theorem outO_normal (g : Bool) (zs : List Nat) (fr : Fr) (keep out : List Nat) (l : Fast) (H : Heap) : outO g zs fr keep out (some (.normal, l, H)) = some (.inl (vkeep g zs fr l keep H)) := rfl
theorem outO_exit (g : Bool) (zs : List Nat) (fr : Fr) (keep out : List Nat) (i : Nat) (l : Fast) (H : Heap) : outO g zs fr keep out (some (.exit i, l, H)) = some (.inr (.exit i, vkeep g (zs.drop keep.length) fr l out H)) := rfl
theorem outO_ret (g : Bool) (zs : List Nat) (fr : Fr) (keep out : List Nat) (l : Fast) (H : Heap) : outO g zs fr keep out (some (.ret, l, H)) = some (.inr (.ret, vkeep g (zs.drop keep.length) fr l out H)) := rfl

/-- One round of a loop: on with it, or out of it. -/
def vround (body : Fast → Heap → BOut) (g : Bool) (zs : List Nat) (fr : Fr) (keep out : List Nat) (p : Fast × Heap) : Option ((Fast × Heap) ⊕ (Ex × Fast × Heap)) :=
  match body p.1 p.2 with
  | some (.normal, l', H') => some (.inl (vkeep g zs fr l' keep H'))
  | some (.exit i, l', H') => some (.inr (.exit i, vkeep g (zs.drop keep.length) fr l' out H'))
  | some (.ret, l', H') => some (.inr (.ret, vkeep g (zs.drop keep.length) fr l' out H'))
  | none => none

/-- A loop, entered. -/
def vrun (body : Fast → Heap → BOut) (g : Bool) (zs : List Nat) (fr : Fr) (keep out : List Nat) : Nat → Fast × Heap → BOut
  | 0, _ => none
  | k + 1, p => match vround body g zs fr keep out p with
    | some (.inl q) => vrun body g zs fr keep out k q
    | some (.inr r) => some r
    | none => none

theorem vround_eq (body : Fast → Heap → BOut) (g : Bool) (zs : List Nat) (fr : Fr) (keep out : List Nat) (l : Fast) (H : Heap) : vround body g zs fr keep out (l, H) = outO g zs fr keep out (body l H) := by
  simp only [vround, outO]
theorem vloop_eq (body : Fast → Heap → BOut) (g : Bool) (zs : List Nat) (fr : Fr) (keep out : List Nat) : ∀ (k : Nat) (l : Fast) (H : Heap), vloop body g zs fr keep out k l H = vrun body g zs fr keep out k (vkeep g zs fr l keep H)
  | 0, _, _ => rfl
  | k + 1, l, H => by
    simp only [vloop, vrun, vround]
    cases hb : body (vkeep g zs fr l keep H).1 (vkeep g zs fr l keep H).2 with
    | none => rfl
    | some r =>
      obtain ⟨x, l', H'⟩ := r
      cases x with
      | normal => exact vloop_eq body g zs fr keep out k _ _
      | exit i => rfl
      | ret => rfl

section
variable {body : Fast → Heap → BOut} {g : Bool} {zs : List Nat} {fr : Fr} {keep out : List Nat}

theorem vrun_on {k : Nat} {p q : Fast × Heap} (h : vround body g zs fr keep out p = some (.inl q)) : vrun body g zs fr keep out (k + 1) p = vrun body g zs fr keep out k q := by
  simp only [vrun, h]

theorem vrun_out {k : Nat} {p : Fast × Heap} {r : Ex × Fast × Heap} (h : vround body g zs fr keep out p = some (.inr r)) : vrun body g zs fr keep out (k + 1) p = some r := by
  simp only [vrun, h]

/-- A loop over a list, from some place on. -/
theorem vrun_list {α σ : Type} {L : List α} {st : σ → Nat → Fast × Heap} {step : σ → α → σ} {fin : σ → Ex × Fast × Heap} (P : σ → Nat → Prop)
    (h1 : ∀ s i (hi : i < L.length), P s i → P (step s L[i]) (i + 1) ∧ vround body g zs fr keep out (st s i) = some (.inl (st (step s L[i]) (i + 1))))
    (h2 : ∀ s, P s L.length → vround body g zs fr keep out (st s L.length) = some (.inr (fin s))) : ∀ (r : List α) (i k : Nat) (s : σ), L.drop i = r → i ≤ L.length → P s i → r.length < k → vrun body g zs fr keep out k (st s i) = some (fin (r.foldl step s))
  | [], i, k, s, hd, hi, hp, hk => by
    obtain ⟨k, rfl⟩ : ∃ k', k = k' + 1 := ⟨k - 1, by simp at hk; omega⟩
    have : i = L.length := by have := List.drop_eq_nil_iff.1 hd; omega
    subst this
    exact vrun_out (h2 s hp)
  | x :: r, i, k, s, hd, hi, hp, hk => by
    obtain ⟨k, rfl⟩ : ∃ k', k = k' + 1 := ⟨k - 1, by simp at hk; omega⟩
    have hx : L[i]? = some x := by
      have := congrArg (fun l => l[0]?) hd
      simpa using this
    obtain ⟨hlt, rfl⟩ := List.getElem?_eq_some_iff.1 hx
    obtain ⟨g1, g2⟩ := h1 s i hlt hp
    rw [vrun_on g2]
    exact vrun_list P h1 h2 r (i + 1) k _ (by have := congrArg (List.drop 1) hd; simpa [List.drop_drop] using this) hlt g1 (by simp at hk; omega)

/-- A loop over a list that may be left early. -/
def runL {α σ ρ : Type} (step : σ → α → σ ⊕ ρ) : σ → List α → σ ⊕ ρ
  | s, [] => .inl s
  | s, x :: r => match step s x with
    | .inl s' => runL step s' r
    | .inr e => .inr e

theorem vrun_listE {α σ ρ : Type} {L : List α} {st : σ → Nat → Fast × Heap} {step : σ → α → σ ⊕ ρ} {fin : σ ⊕ ρ → Ex × Fast × Heap} (P : σ → Nat → Prop)
    (h1 : ∀ s i s' (hi : i < L.length), P s i → step s L[i] = .inl s' → P s' (i + 1) ∧ vround body g zs fr keep out (st s i) = some (.inl (st s' (i + 1))))
    (h3 : ∀ s i e (hi : i < L.length), P s i → step s L[i] = .inr e → vround body g zs fr keep out (st s i) = some (.inr (fin (.inr e))))
    (h2 : ∀ s, P s L.length → vround body g zs fr keep out (st s L.length) = some (.inr (fin (.inl s)))) : ∀ (r : List α) (i k : Nat) (s : σ), L.drop i = r → i ≤ L.length → P s i → r.length < k → vrun body g zs fr keep out k (st s i) = some (fin (runL step s r))
  | [], i, k, s, hd, hi, hp, hk => by
    obtain ⟨k, rfl⟩ : ∃ k', k = k' + 1 := ⟨k - 1, by simp at hk; omega⟩
    have : i = L.length := by have := List.drop_eq_nil_iff.1 hd; omega
    subst this
    exact vrun_out (h2 s hp)
  | x :: r, i, k, s, hd, hi, hp, hk => by
    obtain ⟨k, rfl⟩ : ∃ k', k = k' + 1 := ⟨k - 1, by simp at hk; omega⟩
    have hx : L[i]? = some x := by
      have := congrArg (fun l => l[0]?) hd
      simpa using this
    obtain ⟨hlt, rfl⟩ := List.getElem?_eq_some_iff.1 hx
    simp only [runL]
    cases hs : step s L[i] with
    | inl s' =>
      obtain ⟨g1, g2⟩ := h1 s i s' hlt hp hs
      rw [vrun_on g2]
      exact vrun_listE P h1 h3 h2 r (i + 1) k _ (by have := congrArg (List.drop 1) hd; simpa [List.drop_drop] using this) hlt g1 (by simp at hk; omega)
    | inr e => exact vrun_out (h3 s i e hlt hp hs)
end

theorem vexec_loop (C : VCalls) (K : Nat) (fr : Fr) (n : Nat) (g : Bool) (zs keep out : List Nat) (c : VCode) (l : Fast) (H : Heap) : vexec C K fr n (.loop g zs keep out c) l H = vrun (vexec C K fr n c) g zs fr keep out K (vkeep g zs fr l keep H) := by
  simp only [vexec, vloop_eq]

theorem vkeep_false (zs : List Nat) (fr : Fr) (l : Fast) (keep : List Nat) (H : Heap) : vkeep false zs fr l keep H = (bkeep l keep, H) := rfl
theorem vkeep_true (zs : List Nat) (fr : Fr) (l : Fast) (keep : List Nat) (H : Heap) : vkeep true zs fr l keep H = (zipKeep keep (gc fr (solL zs (keep.map (look l)) H).1 (solL zs (keep.map (look l)) H).2).1, (gc fr (solL zs (keep.map (look l)) H).1 (solL zs (keep.map (look l)) H).2).2) := rfl

/-! ### Whole numbers and texts -/

theorem cB_add (k : IntKind) (x y : Int) : kBin .add (.int k x) (.int k y) = some (.int k (k.wrap (x + y))) := by rw [kBin_eq]; simp [aBin, aInts]
theorem cB_sub (k : IntKind) (x y : Int) : kBin .sub (.int k x) (.int k y) = some (.int k (k.wrap (x - y))) := by rw [kBin_eq]; simp [aBin, aInts]
theorem cB_mul (k : IntKind) (x y : Int) : kBin .mul (.int k x) (.int k y) = some (.int k (k.wrap (x * y))) := by rw [kBin_eq]; simp [aBin, aInts]
theorem cB_eql (k : IntKind) (x y : Int) : kBin .eql (.int k x) (.int k y) = some (.bool (decide (x = y))) := by rw [kBin_eq]; by_cases h : x = y <;> simp [aBin, aInts, h]
theorem cB_neq (k : IntKind) (x y : Int) : kBin .neq (.int k x) (.int k y) = some (.bool (decide (x ≠ y))) := by
  rw [kBin_eq]
  by_cases h : x = y <;> simp [aBin, aInts, h]
theorem cB_lss (k : IntKind) (x y : Int) : kBin .lss (.int k x) (.int k y) = some (.bool (x < y)) := by rw [kBin_eq]; simp [aBin, aInts]
theorem cB_leq (k : IntKind) (x y : Int) : kBin .leq (.int k x) (.int k y) = some (.bool (x ≤ y)) := by rw [kBin_eq]; simp [aBin, aInts]
theorem cB_gtr (k : IntKind) (x y : Int) : kBin .gtr (.int k x) (.int k y) = some (.bool (x > y)) := by rw [kBin_eq]; simp [aBin, aInts]
theorem cB_geq (k : IntKind) (x y : Int) : kBin .geq (.int k x) (.int k y) = some (.bool (x ≥ y)) := by rw [kBin_eq]; simp [aBin, aInts]
theorem cB_xor (k : IntKind) (x y : Int) : kBin .xor (.int k x) (.int k y) = some (.int k (ixor k x y)) := by rw [kBin_eq]; simp [aBin, aInts, ixor]
theorem cB_and (k : IntKind) (x y : Int) : kBin .and (.int k x) (.int k y) = some (.int k (iand k x y)) := by rw [kBin_eq]; simp [aBin, aInts, iand]
theorem cB_or (k : IntKind) (x y : Int) : kBin .or (.int k x) (.int k y) = some (.int k (ior k x y)) := by rw [kBin_eq]; simp [aBin, aInts, ior]
theorem cB_quo (k : IntKind) (x y : Int) (h : y ≠ 0) : kBin .quo (.int k x) (.int k y) = some (.int k (k.wrap (x.tdiv y))) := by rw [kBin_eq]; simp [aBin, aInts, h]
theorem cB_rem (k : IntKind) (x y : Int) (h : y ≠ 0) : kBin .rem (.int k x) (.int k y) = some (.int k (x.tmod y)) := by rw [kBin_eq]; simp [aBin, aInts, h]
theorem cB_shl (k k' : IntKind) (x y : Int) (h : 0 ≤ y) : kBin .shl (.int k x) (.int k' y) = some (.int k (k.wrap (x * 2 ^ (min y.toNat k.bits)))) := by
  rw [kBin_eq]; simp only [aBin]; rw [if_neg (by omega)]
theorem cB_shr (k k' : IntKind) (x y : Int) (h : 0 ≤ y) : kBin .shr (.int k x) (.int k' y) = some (.int k (x.fdiv (2 ^ (min y.toNat k.bits)))) := by
  rw [kBin_eq]; simp only [aBin]; rw [if_neg (by omega)]
theorem cS_add (x y : List UInt8) (h : x.length + y.length ≤ 4611686018427387904) : kBin .add (.str x) (.str y) = some (.str (x ++ y)) := by rw [kBin_eq]; simp [aBin, aStrs, h]
theorem cS_eql (x y : List UInt8) : kBin .eql (.str x) (.str y) = some (.bool (x == y)) := by rw [kBin_eq]; simp [aBin, aStrs]
theorem cS_neq (x y : List UInt8) : kBin .neq (.str x) (.str y) = some (.bool !(x == y)) := by rw [kBin_eq]; simp [aBin, aStrs]
theorem cS_lss (x y : List UInt8) : kBin .lss (.str x) (.str y) = some (.bool (Op.bytesLess x y)) := by rw [kBin_eq]; simp [aBin, aStrs]
theorem cS_leq (x y : List UInt8) : kBin .leq (.str x) (.str y) = some (.bool (Op.bytesLess x y || x == y)) := by rw [kBin_eq]; simp [aBin, aStrs]
theorem cS_gtr (x y : List UInt8) : kBin .gtr (.str x) (.str y) = some (.bool !(Op.bytesLess x y || x == y)) := by rw [kBin_eq]; simp [aBin, aStrs]
theorem cS_geq (x y : List UInt8) : kBin .geq (.str x) (.str y) = some (.bool !(Op.bytesLess x y)) := by rw [kBin_eq]; simp [aBin, aStrs]

/-! ### Heaps -/

theorem get_push (H : Heap) (x : Blk) (b : Nat) : (H.push x).get b = if b = H.next then some x else H.get b := id rfl
theorem get_put (H : Heap) (b : Nat) (x : Option Blk) (i : Nat) : (H.put b x).get i = if i = b then x else H.get i := id rfl
theorem next_push (H : Heap) (x : Blk) : (H.push x).next = H.next + 1 := id rfl
theorem next_put (H : Heap) (b : Nat) (x : Option Blk) : (H.put b x).next = H.next := id rfl
theorem next_cut (H : Heap) (n : Nat) : (H.cut n).next = n := id rfl
theorem get_cut (H : Heap) (n b : Nat) : (H.cut n).get b = if b < n then H.get b else none := id rfl

theorem cut_push (H : Heap) (x : Blk) (n : Nat) (h : n ≤ H.next) : (H.push x).cut n = H.cut n := by
  simp only [Heap.cut, Heap.push, Heap.mk.injEq, and_true]
  funext i
  by_cases hi : i < n
  · simp [hi, show i ≠ H.next by omega]
  · simp [hi]

theorem cut_put_ge (H : Heap) (b : Nat) (x : Option Blk) (n : Nat) (h : n ≤ b) : (H.put b x).cut n = H.cut n := by
  simp only [Heap.cut, Heap.put, Heap.mk.injEq, and_true]
  funext i
  by_cases hi : i < n
  · simp [hi, show i ≠ b by omega]
  · simp [hi]

theorem cut_put_lt (H : Heap) (b : Nat) (x : Option Blk) (n : Nat) (h : b < n) : (H.put b x).cut n = (H.cut n).put b x := by
  simp only [Heap.cut, Heap.put, Heap.mk.injEq, and_true]
  funext i
  by_cases hb : i = b
  · simp [hb, h]
  · simp [hb]

theorem cut_self (H : Heap) (h : H.Ok) : H.cut H.next = H := by
  cases H with
  | mk get next =>
    simp only [Heap.cut, Heap.mk.injEq, and_true]
    funext i
    by_cases hi : i < next
    · simp [hi]
    · simp only [hi, if_false]
      exact (h i (by simp only; omega)).symm

theorem cut_cut (H : Heap) (n m : Nat) (h : m ≤ n) : (H.cut n).cut m = H.cut m := by
  simp only [Heap.cut, Heap.mk.injEq, and_true]
  funext i
  by_cases hi : i < m
  · simp [hi, show i < n by omega]
  · simp [hi]

theorem put_put (H : Heap) (b : Nat) (x y : Option Blk) : (H.put b x).put b y = H.put b y := by
  simp only [Heap.put, Heap.mk.injEq, and_true]
  funext i
  by_cases hb : i = b <;> simp [hb]

theorem put_same (H : Heap) (b : Nat) (x : Blk) (h : H.get b = some x) : H.put b (some x) = H := by
  cases H with
  | mk get next =>
    simp only [Heap.put, Heap.mk.injEq, and_true]
    funext i
    by_cases hb : i = b
    · subst hb
      simpa using h.symm
    · simp [hb]

theorem ok_push {H : Heap} (h : H.Ok) (x : Blk) : (H.push x).Ok := fun b hb => by
  simp only [Heap.push] at hb ⊢
  rw [if_neg (by omega)]
  exact h b (by omega)

theorem ok_put {H : Heap} (h : H.Ok) {b : Nat} (hb : b < H.next) (x : Option Blk) : (H.put b x).Ok := fun i hi => by
  simp only [Heap.put] at hi ⊢
  rw [if_neg (by omega)]
  exact h i hi

theorem lt_of_get {H : Heap} (h : H.Ok) {b : Nat} {x : Blk} (hb : H.get b = some x) : b < H.next := by
  refine Classical.byContradiction fun hc => ?_
  rw [h b (by omega)] at hb
  cases hb

theorem next_empty : Heap.empty.next = 0 := rfl
theorem cut_p1 (H : Heap) (a : Blk) : (H.push a).cut H.next = H.cut H.next := cut_push _ _ _ (Nat.le_refl _)
theorem cut_p2 (H : Heap) (a b : Blk) : ((H.push a).push b).cut H.next = H.cut H.next := by rw [cut_push _ _ _ (by simp [next_push]), cut_p1]
theorem cut_p3 (H : Heap) (a b c : Blk) : (((H.push a).push b).push c).cut H.next = H.cut H.next := by rw [cut_push _ _ _ (by simp [next_push]; omega), cut_p2]
theorem cut_p4 (H : Heap) (a b c d : Blk) : ((((H.push a).push b).push c).push d).cut H.next = H.cut H.next := by rw [cut_push _ _ _ (by simp [next_push]; omega), cut_p3]
theorem cut_app (H : Heap) (a b c : Blk) (x : Option Blk) : ((((H.push a).push b).put H.next x).push c).cut H.next = H.cut H.next := by
  rw [cut_push _ _ _ (by simp [next_push, next_put]; omega), cut_put_ge _ _ _ _ (Nat.le_refl _), cut_p2]
theorem cut_app0 (H : Heap) (a b : Blk) (x : Option Blk) : (((H.push a).push b).put H.next x).cut H.next = H.cut H.next := by
  rw [cut_put_ge _ _ _ _ (Nat.le_refl _), cut_p2]
theorem cut_app1 (H : Heap) (a : Blk) (x : Option Blk) : ((H.push a).put H.next x).cut H.next = H.cut H.next := by
  rw [cut_put_ge _ _ _ _ (Nat.le_refl _), cut_p1]
theorem new_lt (n k : Nat) : (n + k < n) = False := eq_false (by omega)
theorem new_lt2 (n k j : Nat) : (n + k + j < n) = False := eq_false (by omega)
theorem new_lt3 (n k j i : Nat) : (n + k + j + i < n) = False := eq_false (by omega)
theorem eqn_a (n b : Nat) : (n = n + 1 + b) = False := eq_false (by omega)
theorem eqn_b (n b : Nat) : (n + 1 + b = n) = False := eq_false (by omega)
theorem eqn_c (n b : Nat) : (n = n + 1 + 1 + b) = False := eq_false (by omega)
theorem eqn_d (n b : Nat) : (n + 1 + 1 + b = n) = False := eq_false (by omega)
theorem eqn_e (n b : Nat) : (n = n + 1 + 1 + 1 + b) = False := eq_false (by omega)
theorem eqn_f (n b : Nat) : (n + 1 + 1 + 1 + b = n) = False := eq_false (by omega)
theorem new_lt4 (n k j i h : Nat) : (n + k + j + i + h < n) = False := eq_false (by omega)
theorem new_le4 (n k j i h : Nat) : (n ≤ n + k + j + i + h) = True := eq_true (by omega)
theorem new_le2 (n k j : Nat) : (n ≤ n + k + j) = True := eq_true (by omega)
theorem new_le3 (n k j i : Nat) : (n ≤ n + k + j + i) = True := eq_true (by omega)
theorem cut_zero (H : Heap) : H.cut 0 = Heap.empty := by
  simp only [Heap.cut, Heap.empty, Heap.mk.injEq, and_true]
  funext i
  simp
theorem look_nil (t : Nat) : look [] t = .undef := id rfl
theorem cut_empty : Heap.empty.cut 0 = Heap.empty := cut_self _ (fun _ _ => rfl)
theorem ok_empty : Heap.empty.Ok := fun _ _ => rfl

/-! ### Flat cells -/

theorem idsOfL_flat : ∀ {cs : List AV}, (∀ c ∈ cs, c.flat = true) → idsOfL cs = []
  | [], _ => rfl
  | c :: r, h => by
    simp only [idsOfL, idsOf_flat (h c (by simp)), List.nil_append]
    exact idsOfL_flat fun x hx => h x (by simp [hx])

theorem ren_flat {m : Nat} {p : List Nat} {v : AV} (h : v.flat = true) : ren m p v = v := by
  cases v with
  | ptr q => cases q <;> simp [AV.flat] at h <;> rfl
  | slice q => cases q <;> simp [AV.flat] at h <;> rfl
  | map q => cases q <;> simp [AV.flat] at h <;> rfl
  | func f cs => cases cs <;> simp [AV.flat] at h <;> rfl
  | agg cs => simp [AV.flat] at h
  | tuple cs => simp [AV.flat] at h
  | acc => simp [AV.flat] at h
  | _ => rfl

theorem renL_flat {m : Nat} {p : List Nat} : ∀ {cs : List AV}, (∀ c ∈ cs, c.flat = true) → renL m p cs = cs
  | [], _ => rfl
  | c :: r, h => by
    simp only [renL, ren_flat (h c (by simp))]
    rw [renL_flat fun x hx => h x (by simp [hx])]

/-- Values that freezing leaves alone. -/
def AV.still : AV → Bool
  | .slice none _ _ _ _ => false
  | v => v.flat

theorem frz_still {H : Heap} {k : Nat} {n : Bool} {v : AV} (h : v.still = true) : frz H k n v = some (v, []) := by
  cases k with
  | zero =>
    cases v with
    | slice q => cases q <;> simp [AV.still, AV.flat] at h
    | _ => simp only [AV.still] at h; simp [frz, h]
  | succ k =>
    cases v with
    | ptr q => cases q <;> simp [AV.still, AV.flat] at h <;> rfl
    | slice q => cases q <;> simp [AV.still, AV.flat] at h
    | map q => cases q <;> simp [AV.still, AV.flat] at h <;> rfl
    | func f cs => cases cs <;> simp [AV.still, AV.flat] at h <;> rfl
    | agg cs => simp [AV.still, AV.flat] at h
    | tuple cs => simp [AV.still, AV.flat] at h
    | acc => simp [AV.still, AV.flat] at h
    | _ => rfl

theorem frzL_still {g : AV → Option (AV × List Nat)} : ∀ {cs : List AV}, (∀ c ∈ cs, g c = some (c, [])) → frzL g cs = some (cs, [])
  | [], _ => rfl
  | c :: r, h => by
    simp only [frzL, h c (by simp)]
    rw [frzL_still fun x hx => h x (by simp [hx])]
    rfl

theorem frzL_nil (g : AV → Option (AV × List Nat)) : frzL g [] = some ([], []) := id rfl
def frzM (v : Option (AV × List Nat)) (r : Option (List AV × List Nat)) : Option (List AV × List Nat) := match v, r with
  | some p, some q => some (p.1 :: q.1, p.2 ++ q.2)
  | _, _ => none
theorem frzM_some (p : AV × List Nat) (q : List AV × List Nat) : frzM (some p) (some q) = some (p.1 :: q.1, p.2 ++ q.2) := id rfl
theorem frzL_cons' (g : AV → Option (AV × List Nat)) (v : AV) (r : List AV) : frzL g (v :: r) = frzM (g v) (frzL g r) := id rfl
theorem frzS_eq {g : AV → Option (AV × List Nat)} {cs : List AV} (h : frzL g cs = some (cs, [])) (b sz n : Nat) (ex : Bool) : frzS g b sz n ex (some cs) = some (.list sz n cs ex, [b]) := by
  simp only [frzS, h]
theorem ice_nil (H : Heap) : H.ice [] = H := by simp [Heap.ice]
theorem get_ice (H : Heap) (S : List Nat) (b : Nat) : (H.ice S).get b = if S.contains b then iceB (H.get b) else H.get b := id rfl
theorem next_ice (H : Heap) (S : List Nat) : (H.ice S).next = H.next := id rfl
theorem iceB_some (c : List AV) (ro sl : Bool) : iceB (some (.cells c ro sl)) = some (.cells c true sl) := id rfl
theorem ok_ice {H : Heap} (h : H.Ok) (S : List Nat) : (H.ice S).Ok := fun b hb => by
  simp only [get_ice]
  rw [h b hb]
  split <;> rfl
theorem cut_ice (H : Heap) (S : List Nat) (n : Nat) (h : S.all (fun b => decide (n ≤ b)) = true) : (H.ice S).cut n = H.cut n := by
  simp only [Heap.cut, Heap.ice, Heap.mk.injEq, and_true]
  funext i
  by_cases hi : i < n
  · simp only [hi, if_true]
    rw [if_neg]
    intro hc
    rw [List.all_eq_true] at h
    have := h i (by simpa using hc)
    simp at this
    omega
  · simp only [hi, if_false]

/-! ### What is frozen when it is called, told when it ends -/

def vexit2 (fr : Fr) (x : Option (AV × List Nat)) (y : Option (Heap × List Nat)) : Option (AV × Heap) := match x, y with
  | some p, some q => if (idsOf p.1).all (fun i => decide (i < fr.mark)) then some (p.1, q.1.ice (p.2 ++ q.2)) else none
  | _, _ => none
def vexit1 (frozen : Bool) (fr : Fr) (q : AV × Heap) : Option (AV × Heap) := match frozen with
  | true => vexit2 fr (frz q.2 5 false q.1) (frzTidy q.2 fr.mark fr.tidy (q.2.cut fr.mark))
  | false => some ((gc fr [q.1] q.2).1.headD .undef, (gc fr [q.1] q.2).2)
theorem vexit_eq (frozen : Bool) (zs : List Nat) (fr : Fr) (v : AV) (H : Heap) : vexit frozen zs fr v H = vexit1 frozen fr (solV zs v H) := by cases frozen <;> rfl
theorem vexit1_frozen (fr : Fr) (v : AV) (H : Heap) : vexit1 true fr (v, H) = vexit2 fr (frz H 5 false v) (frzTidy H fr.mark fr.tidy (H.cut fr.mark)) := rfl
theorem vexit1_gc (fr : Fr) (v : AV) (H : Heap) : vexit1 false fr (v, H) = some ((gc fr [v] H).1.headD .undef, (gc fr [v] H).2) := rfl
theorem vexit2_some (fr : Fr) (v : AV) (S T : List Nat) (X : Heap) : vexit2 fr (some (v, S)) (some (X, T)) = if (idsOf v).all (fun i => decide (i < fr.mark)) then some (v, X.ice (S ++ T)) else none := rfl
theorem vfrz_some (g : List AV → Heap → Option (AV × Heap)) (H : Heap) (A : List AV) (S : List Nat) : vfrz g H (some (A, S)) = g A (H.ice S) := rfl
theorem solz_succ (z : Nat) (v : AV) (H : Heap) : solz (z + 1) v H = sol1 (z + 1) v H := rfl
def solF (v : AV) (H : Heap) (x : Option (AV × List Nat)) : AV × Heap := match x with
  | some p => (p.1, H.ice p.2)
  | none => (v, H)
theorem solz_zero (v : AV) (H : Heap) : solz 0 v H = solF v H (frz H 5 false v) := rfl
theorem solF_some (v w : AV) (H : Heap) (S : List Nat) : solF v H (some (w, S)) = (w, H.ice S) := rfl
theorem frzTidy_nil (H : Heap) (m : Nat) (X : Heap) : frzTidy H m [] X = some (X, []) := rfl

/-! ### Bytes and texts -/

def byteC (b : UInt8) : AV := .int .u8 b.toNat

/-- Bytes, frozen; texts, frozen; numbers, frozen. -/
def vbytes (s : List UInt8) (ex : Bool) : AV := .list 1 s.length (s.map byteC) ex
def vstrs (l : List (List UInt8)) (ex : Bool) : AV := .list 1 l.length (l.map .str) ex
def vints (l : List Int) (ex : Bool) : AV := .list 1 l.length (l.map (.int .i64)) ex

theorem idsOf_byteC (b : UInt8) : idsOf (byteC b) = [] := id rfl
theorem ren_byteC (m : Nat) (p : List Nat) (b : UInt8) : ren m p (byteC b) = byteC b := id rfl
theorem frz_int (H : Heap) (k : Nat) (n : Bool) (t : IntKind) (x : Int) : frz H k n (.int t x) = some (.int t x, []) := frz_still rfl
theorem frz_bool (H : Heap) (k : Nat) (n : Bool) (b : Bool) : frz H k n (.bool b) = some (.bool b, []) := frz_still rfl
theorem frz_str (H : Heap) (k : Nat) (n : Bool) (s : List UInt8) : frz H k n (.str s) = some (.str s, []) := frz_still rfl
theorem frz_nilFunc (H : Heap) (k : Nat) (n : Bool) : frz H k n .nilFunc = some (.nilFunc, []) := frz_still rfl
theorem frz_undef (H : Heap) (k : Nat) (n : Bool) : frz H k n .undef = some (.undef, []) := frz_still rfl
theorem frz_list (H : Heap) (k : Nat) (n : Bool) (sz len : Nat) (cs : List AV) (ex : Bool) : frz H k n (.list sz len cs ex) = some (.list sz len cs ex, []) := frz_still rfl
theorem frz_elem (H : Heap) (k : Nat) (n : Bool) (cs : List AV) : frz H k n (.elem cs) = some (.elem cs, []) := frz_still rfl
theorem frz_nilptr (H : Heap) (k : Nat) (n : Bool) : frz H k n (.ptr none) = some (.ptr none, []) := frz_still rfl
theorem frz_nilmap (H : Heap) (k : Nat) (n : Bool) : frz H k n (.map none) = some (.map none, []) := frz_still rfl
theorem frz_fn (H : Heap) (k : Nat) (n : Bool) (f : FuncId) : frz H k n (.func f []) = some (.func f [], []) := frz_still rfl
theorem frz_ptr (H : Heap) (k : Nat) (n : Bool) (q : Nat × Nat) : frz H (k + 1) n (.ptr (some q)) = if n then none else some (.ptr (some q), []) := id rfl
theorem frz_map (H : Heap) (k : Nat) (n : Bool) (r : Nat) : frz H (k + 1) n (.map (some r)) = if n then none else some (.map (some r), []) := id rfl
theorem frz_nilslice (H : Heap) (k : Nat) (n : Bool) (sz len cap : Nat) (ex : Bool) : frz H (k + 1) n (.slice none sz len cap ex) = if len = 0 ∧ cap = 0 ∧ ex = true then some (.list sz 0 [] true, []) else some (.slice none sz len cap ex, []) := id rfl
theorem frz_func (H : Heap) (k : Nat) (n : Bool) (f : FuncId) (cs : List AV) : frz H (k + 1) n (.func f cs) = (frzL (frz H k n) cs).map fun p => (.func f p.1, p.2) := id rfl
theorem frz_agg (H : Heap) (k : Nat) (n : Bool) (cs : List AV) : frz H (k + 1) n (.agg cs) = (frzL (frz H k n) cs).map fun p => (.agg p.1, p.2) := id rfl
theorem frz_tuple (H : Heap) (k : Nat) (n : Bool) (cs : List AV) : frz H (k + 1) n (.tuple cs) = (frzL (frz H k n) cs).map fun p => (.tuple p.1, p.2) := id rfl
theorem frz_slice (H : Heap) (k : Nat) (n : Bool) (q : Nat × Nat) (sz len cap : Nat) (ex : Bool) : frz H (k + 1) n (.slice (some q) sz len cap ex) =
    if len = 0 then some (.list sz 0 [] (ex && cap == 0), [])
    else if cap < len then none
    else frzS (frz H k true) q.1 sz len (ex && cap == len) (H.read q.1 q.2 (len * sz)) := id rfl
theorem frz_acc (H : Heap) (k : Nat) (nested : Bool) (b o sz n : Nat) (w : Bool) : frz H (k + 1) nested (.acc b o sz n w) = frzS (frz H k true) b sz n false (H.read b o (n * sz)) := id rfl
theorem frz_byteC (H : Heap) (k : Nat) (n : Bool) (b : UInt8) : frz H k n (byteC b) = some (byteC b, []) := frz_still rfl
theorem flat_bytes (s : List UInt8) : ∀ c ∈ s.map byteC, c.flat = true := by
  intro c hc
  obtain ⟨b, _, rfl⟩ := List.mem_map.1 hc
  rfl

theorem still_bytes (s : List UInt8) : ∀ c ∈ s.map byteC, c.still = true := by
  intro c hc
  obtain ⟨b, _, rfl⟩ := List.mem_map.1 hc
  rfl

theorem flat_map {α : Type} {f : α → AV} (h : ∀ x, (f x).flat = true) (l : List α) : ∀ c ∈ l.map f, c.flat = true := by
  intro c hc
  obtain ⟨b, _, rfl⟩ := List.mem_map.1 hc
  exact h b

theorem idsOfL_bytes (s : List UInt8) : idsOfL (s.map byteC) = [] := idsOfL_flat (flat_bytes s)
theorem idsOfL_strs (l : List (List UInt8)) : idsOfL (l.map AV.str) = [] := idsOfL_flat (flat_map (fun _ => rfl) l)
theorem idsOfL_ints (l : List Int) : idsOfL (l.map (AV.int .i64)) = [] := idsOfL_flat (flat_map (fun _ => rfl) l)
theorem renL_bytes (m : Nat) (p : List Nat) (s : List UInt8) : renL m p (s.map byteC) = s.map byteC := renL_flat (flat_bytes s)
theorem renL_strs (m : Nat) (p : List Nat) (l : List (List UInt8)) : renL m p (l.map AV.str) = l.map AV.str := renL_flat (flat_map (fun _ => rfl) l)
theorem renL_ints (m : Nat) (p : List Nat) (l : List Int) : renL m p (l.map (AV.int .i64)) = l.map (AV.int .i64) := renL_flat (flat_map (fun _ => rfl) l)
/-- A row of cells, by elements. -/
def rowC {α : Type} (f : α → List AV) (l : List α) : List AV := l.flatMap f
theorem rowC_nil {α : Type} (f : α → List AV) : rowC f [] = [] := rfl
theorem rowC_cons {α : Type} (f : α → List AV) (x : α) (l : List α) : rowC f (x :: l) = f x ++ rowC f l := rfl
theorem rowC_app {α : Type} (f : α → List AV) (l r : List α) : rowC f (l ++ r) = rowC f l ++ rowC f r := by simp [rowC]

theorem frzL_drop {g : AV → Option (AV × List Nat)} : ∀ {cs : List AV} (n : Nat), frzL g cs = some (cs, []) → frzL g (cs.drop n) = some (cs.drop n, [])
  | cs, 0, h => by simpa using h
  | [], n + 1, h => by simpa using h
  | c :: cs, n + 1, h => by
    obtain ⟨q, r, h1, h2, h3⟩ := frzL_cons h
    obtain ⟨r1, r2⟩ := r
    simp only [Prod.mk.injEq, List.cons.injEq] at h3
    obtain ⟨⟨_, rfl⟩, h4⟩ := h3
    obtain rfl : r2 = [] := by
      have := h4.symm
      simp at this
      exact this.2
    simpa using frzL_drop n h2
theorem frzL_take {g : AV → Option (AV × List Nat)} : ∀ {cs : List AV} (n : Nat), frzL g cs = some (cs, []) → frzL g (cs.take n) = some (cs.take n, [])
  | cs, 0, h => by simp [frzL]
  | [], n + 1, h => by simpa using h
  | c :: cs, n + 1, h => by
    obtain ⟨q, r, h1, h2, h3⟩ := frzL_cons h
    obtain ⟨r1, r2⟩ := r
    obtain ⟨q1, q2⟩ := q
    simp only [Prod.mk.injEq, List.cons.injEq] at h3
    obtain ⟨⟨rfl, rfl⟩, h4⟩ := h3
    have h5 := h4.symm
    simp at h5
    obtain ⟨rfl, rfl⟩ := h5
    simp only [List.take_succ_cons, frzL, h1, frzL_take n h2]
    rfl
theorem idsOfL_drop {cs : List AV} (n : Nat) (h : idsOfL cs = []) : idsOfL (cs.drop n) = [] := by
  refine List.eq_nil_iff_forall_not_mem.2 fun i hi => ?_
  obtain ⟨v, hv, hx⟩ := mem_idsOfL.1 hi
  have := mem_idsOfL.2 ⟨v, List.mem_of_mem_drop hv, hx⟩
  rw [h] at this
  cases this
theorem idsOfL_take {cs : List AV} (n : Nat) (h : idsOfL cs = []) : idsOfL (cs.take n) = [] := by
  refine List.eq_nil_iff_forall_not_mem.2 fun i hi => ?_
  obtain ⟨v, hv, hx⟩ := mem_idsOfL.1 hi
  have := mem_idsOfL.2 ⟨v, List.mem_of_mem_take hv, hx⟩
  rw [h] at this
  cases this
theorem renL_drop {m : Nat} {p : List Nat} : ∀ {cs : List AV} (n : Nat), renL m p cs = cs → renL m p (cs.drop n) = cs.drop n
  | cs, 0, h => by simpa using h
  | [], n + 1, h => by simpa using h
  | c :: cs, n + 1, h => by
    simp only [renL, List.cons.injEq] at h
    simpa using renL_drop n h.2
theorem renL_take {m : Nat} {p : List Nat} : ∀ {cs : List AV} (n : Nat), renL m p cs = cs → renL m p (cs.take n) = cs.take n
  | cs, 0, h => by simp [renL]
  | [], n + 1, h => by simpa using h
  | c :: cs, n + 1, h => by
    simp only [renL, List.cons.injEq] at h
    simp only [List.take_succ_cons, renL, h.1, renL_take n h.2]
theorem ice_new {H : Heap} (hH : H.Ok) {S : List Nat} (h : S.all (fun b => decide (H.next ≤ b)) = true) : H.ice S = H := by
  obtain ⟨get, next⟩ := H
  simp only [Heap.ice, Heap.mk.injEq, and_true]
  funext i
  split
  · rename_i hc
    rw [List.all_eq_true] at h
    have := h i (by simpa using hc)
    have e : get i = none := hH i (by simpa using this)
    rw [e]
    rfl
  · rfl
theorem frzL_bytes (H : Heap) (k : Nat) (n : Bool) (s : List UInt8) : frzL (frz H k n) (s.map byteC) = some (s.map byteC, []) :=
  frzL_still fun c hc => frz_still (still_bytes s c hc)
theorem frzL_strs (H : Heap) (k : Nat) (n : Bool) (l : List (List UInt8)) : frzL (frz H k n) (l.map AV.str) = some (l.map AV.str, []) :=
  frzL_still fun c hc => frz_still (by obtain ⟨b, _, rfl⟩ := List.mem_map.1 hc; rfl)
theorem frzL_ints (H : Heap) (k : Nat) (n : Bool) (l : List Int) : frzL (frz H k n) (l.map (AV.int .i64)) = some (l.map (AV.int .i64), []) :=
  frzL_still fun c hc => frz_still (by obtain ⟨b, _, rfl⟩ := List.mem_map.1 hc; rfl)

theorem idsOfL_append (a b : List AV) : idsOfL (a ++ b) = idsOfL a ++ idsOfL b := by
  induction a with
  | nil => rfl
  | cons x a ih => simp [idsOfL, ih]
theorem renL_append (m : Nat) (p : List Nat) (a b : List AV) : renL m p (a ++ b) = renL m p a ++ renL m p b := by
  induction a with
  | nil => rfl
  | cons x a ih => simp [renL, ih]

theorem toBytes_map (s : List UInt8) : toBytes (s.map byteC) = some s := by
  induction s with
  | nil => rfl
  | cons b s ih =>
    simp only [List.map_cons, byteC, toBytes] at ih ⊢
    rw [ih]
    simp

theorem toBytes_drop (s : List UInt8) (n : Nat) : toBytes ((s.map byteC).drop n) = some (s.drop n) := by rw [← List.map_drop]; exact toBytes_map _
theorem toBytes_take (s : List UInt8) (n : Nat) : toBytes ((s.map byteC).take n) = some (s.take n) := by rw [← List.map_take]; exact toBytes_map _
theorem toBytes_td (s : List UInt8) (k m : Nat) : toBytes (((s.map byteC).drop k).take m) = some ((s.drop k).take m) := by rw [← List.map_drop, ← List.map_take]; exact toBytes_map _
theorem bornPut_some {n d : Nat} (h : d < n) (k : Nat) (bt : List (Nat × Nat)) : bornPut n (some d) k bt = (d, k) :: bt := by
  simp only [bornPut]
  rw [show Nat.blt d n = true from by simpa [Nat.blt_eq] using h]
theorem bornPut_none (n k : Nat) (bt : List (Nat × Nat)) : bornPut n none k bt = bt := rfl
theorem byteC_def : (fun b : UInt8 => AV.int .u8 b.toNat) = byteC := rfl

theorem wrap_u8_u64 (b : UInt8) : IntKind.u64.wrap (b.toNat : Int) = (b.toNat : Int) := by
  have := b.toNat_lt
  simp [IntKind.wrap, IntKind.signed, IntKind.bits]
  omega

theorem wrap_u8_i64 (b : UInt8) : IntKind.i64.wrap (b.toNat : Int) = (b.toNat : Int) := by
  have := b.toNat_lt
  exact wrap_i64 (by omega) (by omega)

/-- Where cells are that a call is handed: a list; a block; nothing. -/
inductive AtL (H : Heap) (sz n : Nat) (cs : List AV) : AV → Prop
  | list (ex : Bool) : AtL H sz n cs (.list sz n cs ex)
  | own (b cap : Nat) (ex ro sl : Bool) (h : H.get b = some (.cells cs ro sl)) : AtL H sz n cs (.slice (some (b, 0)) sz n cap ex)
  | nil (h1 : n = 0) (h2 : cs = []) : AtL H sz n cs (.slice none sz 0 0 true)

theorem AtL.up {H H' : Heap} {sz n : Nat} {cs : List AV} {v : AV} (h : AtL H sz n cs v) (hh : ∀ b c ro sl, H.get b = some (.cells c ro sl) → H'.get b = some (.cells c ro sl)) : AtL H' sz n cs v := by
  cases h with
  | list ex => exact .list ex
  | own b cap ex ro sl h => exact .own b cap ex ro sl (hh _ _ _ _ h)
  | nil h1 h2 => exact .nil h1 h2

theorem AtL.push {H : Heap} (ok : H.Ok) {sz n : Nat} {cs : List AV} {v : AV} (h : AtL H sz n cs v) (x : Blk) : AtL (H.push x) sz n cs v :=
  h.up fun b c ro sl hb => by rw [get_push, if_neg (Nat.ne_of_lt (lt_of_get ok hb))]; exact hb

/-- A block that is there is none of those to come. -/
theorem ne_new {H : Heap} (ok : H.Ok) {b : Nat} {x : Blk} (hb : H.get b = some x) (k : Nat) : (b = H.next + k) = False := by
  have := lt_of_get ok hb
  exact eq_false (by omega)
theorem ne_new0 {H : Heap} (ok : H.Ok) {b : Nat} {x : Blk} (hb : H.get b = some x) : (b = H.next) = False := by
  have := lt_of_get ok hb
  exact eq_false (by omega)

theorem ne_new2 {H : Heap} (ok : H.Ok) {b : Nat} {x : Blk} (hb : H.get b = some x) (k j : Nat) : (b = H.next + k + j) = False := by
  have := lt_of_get ok hb
  exact eq_false (by omega)
theorem ne_new3 {H : Heap} (ok : H.Ok) {b : Nat} {x : Blk} (hb : H.get b = some x) (k j i : Nat) : (b = H.next + k + j + i) = False := by
  have := lt_of_get ok hb
  exact eq_false (by omega)
theorem le_new {H : Heap} (ok : H.Ok) {b : Nat} {x : Blk} (hb : H.get b = some x) : (H.next ≤ b) = False := by
  have := lt_of_get ok hb
  exact eq_false (by omega)

/-- One more element. -/
theorem drop_cons {α : Type} {l : List α} {i : Nat} {x : α} {r : List α} (h : l.drop i = x :: r) : i < l.length ∧ l[i]? = some x ∧ l.drop (i + 1) = r := by
  refine ⟨?_, ?_, ?_⟩
  · refine Classical.byContradiction fun hc => ?_
    rw [List.drop_eq_nil_of_le (by omega)] at h
    cases h
  · have := congrArg (fun l => l[0]?) h
    simpa using this
  · have := congrArg (List.drop 1) h
    simpa [List.drop_drop] using this

theorem drop_nil' {α : Type} {l : List α} {i : Nat} (h : l.drop i = []) : l.length ≤ i := List.drop_eq_nil_iff.1 h

end
end Go.Proofs.Ytachollgbplikaa
