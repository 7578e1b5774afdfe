/- The abstract machine, twenty-third part: the same machine with an environment that the kernel takes cheaply: the last written first. What it comes to, the machine comes to. -/
import Derived.Test.YtachollgbplikaaAm18
set_option linter.unusedVariables false
set_option linter.unusedSimpArgs false
namespace Go.Proofs.Ytachollgbplikaa

abbrev Fast := List (Nat × AV)

def look : Fast → Nat → AV
  | [], _ => .undef
  | p :: r, t => match Nat.beq p.1 t with
    | true => p.2
    | false => look r t

def AX.sub (ρ : Nat → AV) : AX → AX
  | .t n => .c (ρ n)
  | .c v => .c v

def AX.subO (ρ : Nat → AV) (x : Option AX) : Option AX := x.map (AX.sub ρ)

def POp.sub (ρ : Nat → AV) : POp → POp
  | .move x => .move (x.sub ρ)
  | .pick c a b => .pick (c.sub ρ) (a.sub ρ) (b.sub ρ)
  | .build z ps => .build z (ps.map fun p => (p.1, p.2.1, p.2.2.sub ρ))
  | .nilCheck x => .nilCheck (x.sub ρ)
  | .bin op x y => .bin op (x.sub ρ) (y.sub ρ)
  | .eqB n x y => .eqB n (x.sub ρ) (y.sub ρ)
  | .eqS n ks x y => .eqS n ks (x.sub ρ) (y.sub ρ)
  | .eqP n x y => .eqP n (x.sub ρ) (y.sub ρ)
  | .eqN n x y => .eqN n (x.sub ρ) (y.sub ρ)
  | .un op x => .un op (x.sub ρ)
  | .cvInt k x => .cvInt k (x.sub ρ)
  | .cvStr x => .cvStr (x.sub ρ)
  | .mkFunc f cs => .mkFunc f (cs.map (AX.sub ρ))
  | .sliceStr x a b => .sliceStr (x.sub ρ) (AX.subO ρ a) (AX.subO ρ b)
  | .slice s x a b c => .slice s (x.sub ρ) (AX.subO ρ a) (AX.subO ρ b) (AX.subO ρ c)
  | .fieldAddr o x => .fieldAddr o (x.sub ρ)
  | .field g o n x => .field g o n (x.sub ρ)
  | .idxArr n s x i => .idxArr n s (x.sub ρ) (i.sub ρ)
  | .idxSlice s x i => .idxSlice s (x.sub ρ) (i.sub ρ)
  | .index g n s x i => .index g n s (x.sub ρ) (i.sub ρ)
  | .indexStr x i => .indexStr (x.sub ρ) (i.sub ρ)
  | .extract x i => .extract (x.sub ρ) i
  | .len s x => .len s (x.sub ρ)
  | .cap x => .cap (x.sub ρ)
  | .minmax m xs => .minmax m (xs.map (AX.sub ρ))

def LOp.sub (ρ : Nat → AV) : LOp → LOp
  | .load g n x => .load g n (x.sub ρ)
  | .bytesStr x => .bytesStr (x.sub ρ)
  | .mapLen x => .mapLen (x.sub ρ)
  | .lookup ok z x k => .lookup ok z (x.sub ρ) (k.sub ρ)

def KOp.sub (ρ : Nat → AV) : KOp → KOp
  | .alloc z => .alloc z
  | .box x => .box (x.sub ρ)
  | .buildSlice s l z ps => .buildSlice s l z (ps.map fun p => (p.1, p.2.sub ρ))
  | .makeSlice s b z l c => .makeSlice s b z (l.sub ρ) (c.sub ρ)
  | .strBytes x => .strBytes (x.sub ρ)
  | .makeMap => .makeMap

def NOp.sub (ρ : Nat → AV) : NOp → NOp
  | .store n a v => .store n (a.sub ρ) (v.sub ρ)
  | .call f xs => .call (f.sub ρ) (xs.map (AX.sub ρ))
  | .append s b x y => .append s b (x.sub ρ) (y.sub ρ)
  | .appendZ s b z x y => .appendZ s b z (x.sub ρ) (y.sub ρ)
  | .copy s x y => .copy s (x.sub ρ) (y.sub ρ)
  | .clear s z x => .clear s z (x.sub ρ)
  | .mapUpdate m k v => .mapUpdate (m.sub ρ) (k.sub ρ) (v.sub ρ)
  | .mapDelete m k => .mapDelete (m.sub ρ) (k.sub ρ)
  | .cvBytes x => .cvBytes (x.sub ρ)
  | .fail => .fail

def AOp.sub (ρ : Nat → AV) : AOp → AOp
  | .p o => .p (o.sub ρ)
  | .l o => .l (o.sub ρ)
  | .k o => .k (o.sub ρ)
  | .n o => .n (o.sub ρ)

section
variable {ρ : Nat → AV} {e : Env} (h : ∀ t, ρ t = e.getD t .undef)
include h

theorem ev_sub (x : AX) : (x.sub ρ).ev [] = x.ev e := by
  cases x with
  | t n => exact h n
  | c v => rfl

theorem evs_sub (l : List AX) : (l.map (AX.sub ρ)).map (AX.ev []) = l.map (AX.ev e) := by
  rw [List.map_map]
  exact List.map_congr_left fun x _ => ev_sub h x

theorem boundO_sub (x : Option AX) (a b : Nat) : aBoundO [] (AX.subO ρ x) a b = aBoundO e x a b := by
  cases x with
  | none => rfl
  | some x => simp only [AX.subO, Option.map_some, aBoundO, ev_sub h]

theorem aP_sub (o : POp) : aP (o.sub ρ) [] = aP o e := by
  cases o with
  | build z ps =>
    simp only [POp.sub, aP, List.map_map]
    congr 2
    exact List.map_congr_left fun p _ => by simp only [Function.comp, ev_sub h]
  | mkFunc f cs => simp only [POp.sub, aP, evs_sub h]
  | minmax m xs => simp only [POp.sub, aP, evs_sub h]
  | sliceStr x a b => simp only [POp.sub, aP, ev_sub h, aSliceStr, boundO_sub h]
  | slice s x a b c =>
    simp only [POp.sub, aP, ev_sub h]
    split
    · simp only [aSlice, boundO_sub h]
      cases c with
      | none => rfl
      | some c => cases b with
        | none => rfl
        | some b => rfl
    · rfl
  | _ => simp only [POp.sub, aP, ev_sub h]

theorem aL_sub' (o : LOp) (M : Heap) : aL (o.sub ρ) [] M = aL o e M := by
  cases o <;> simp only [LOp.sub, aL, ev_sub h]

theorem aK_sub (o : KOp) : aK (o.sub ρ) [] = aK o e := by
  cases o with
  | buildSlice s l z ps =>
    simp only [KOp.sub, aK, List.map_map]
    congr 2
    exact List.map_congr_left fun p _ => by simp only [Function.comp, ev_sub h]
  | _ => simp only [KOp.sub, aK, ev_sub h]

theorem aN_sub (C : ACalls) (o : NOp) (M : Heap) : aN C (o.sub ρ) [] M = aN C o e M := by
  cases o with
  | call f xs => simp only [NOp.sub, aN, ev_sub h, evs_sub h]
  | _ => simp only [NOp.sub, aN, ev_sub h]

theorem aop_sub (C : ACalls) (o : AOp) (M : Heap) : aop C (o.sub ρ) [] M = aop C o e M := by
  cases o with
  | p o => simp only [AOp.sub, aop, aP_sub h]
  | l o => simp only [AOp.sub, aop, aL_sub' h]
  | k o => simp only [AOp.sub, aop, aK_sub h]
  | n o => simp only [AOp.sub, aop, aN_sub h]
end

def ACalls.Le (C C' : ACalls) : Prop := ∀ f a M r, C f a M = some r → C' f a M = some r

theorem aN_le {C C' : ACalls} (h : C.Le C') {o : NOp} {e : Env} {M : Heap} {r : AV × Heap} (hr : aN C o e M = some r) : aN C' o e M = some r := by
  cases o with
  | call f xs =>
    simp only [aN, aCall] at hr ⊢
    split at hr
    · exact h _ _ _ _ hr
    · cases hr
  | _ => exact hr

theorem aop_le {C C' : ACalls} (h : C.Le C') {o : AOp} {e : Env} {M : Heap} {r : AV × Heap} (hr : aop C o e M = some r) : aop C' o e M = some r := by
  cases o with
  | n o => exact aN_le h hr
  | _ => exact hr

/-- A value, brought to its form first. -/
def AV.force {β : Type} (v : AV) (k : AV → β) : β :=
  match v with
  | .int kd (.ofNat m) => match m with
    | 0 => k (.int kd (.ofNat 0))
    | m + 1 => k (.int kd (.ofNat (m + 1)))
  | .bool true => k (.bool true)
  | .bool false => k (.bool false)
  | v => k v

theorem force_eq {β : Type} (v : AV) (k : AV → β) : v.force k = k v := by
  unfold AV.force
  split
  · split <;> rfl
  · rfl
  · rfl
  · rfl

def bput (n : Nat) (d : Option Nat) (v : AV) (l : Fast) : Fast :=
  match d with
  | some d => match Nat.blt d n with
    | true => (d, v) :: l
    | false => l
  | none => l

def bwanted (g : Option (Nat × Bool)) (l : Fast) : Option Bool :=
  match g with
  | none => some true
  | some (t, want) => match look l t with
    | .bool b => some (b == want)
    | .tuple _ => some false
    | _ => none

def bops (C : ACalls) (n : Nat) : List AOper → Fast → Heap → Option (Fast × Heap)
  | [], l, M => some (l, M)
  | o :: r, l, M => match bwanted o.guard l with
    | some true => match aop C (o.op.sub (look l)) [] M with
      | some p => p.1.force fun v => bops C n r (bput n o.dst v l) p.2
      | none => none
    | some false => bops C n r (bput n o.dst (.tuple []) l) M
    | none => none

def bdops (C : ACalls) (n base nk : Nat) : List DOper → Fast → Heap → List Heap → Option (Fast × Heap)
  | [], l, M, _ => some (l, M)
  | d :: r, l, M, hist => match bwanted d.o.guard l with
    | some true => match d.o.op with
      | .p o => match aP (o.sub (look l)) [] with
        | some v => v.force fun v => bdops C n base nk r (bput n d.o.dst v l) M hist
        | none => none
      | .l o => match aL (o.sub (look l)) [] (M.hide base nk) with
        | some v => if (hist.drop d.lo).all (fun H => match aL (o.sub (look l)) [] (H.hide base nk) with | some u => AV.same u v | none => false) then v.force fun v => bdops C n base nk r (bput n d.o.dst v l) M hist else none
        | none => none
      | .k o => match aK (o.sub (look l)) [] with
        | some p => bdops C n base nk r (bput n d.o.dst (p.2.val (base + d.ix)) l) (M.put (base + d.ix) (some p.1)) hist
        | none => none
      | .n o => match aN C (o.sub (look l)) [] M with
        | some p => p.1.force fun v => bdops C n base nk r (bput n d.o.dst v l) p.2 (hist ++ [M])
        | none => none
    | some false => bdops C n base nk r (bput n d.o.dst (.tuple []) l) M (match d.o.op with | .n _ => hist ++ [M] | _ => hist)
    | none => none

def bkeep (l : Fast) : List Nat → Fast
  | [] => []
  | t :: r => (t, look l t) :: bkeep l r

abbrev BOut := Option (Ex × Fast × Heap)

def bloop (body : Fast → Heap → BOut) (keep : List Nat) : Nat → Fast → Heap → BOut
  | 0, _, _ => none
  | k + 1, l, M => match body (bkeep l keep) M with
    | some (.normal, l', M') => bloop body keep k l' M'
    | r => r

def bexec (C : ACalls) (K n : Nat) : ACode → Fast → Heap → BOut
  | .skip, l, M => some (.normal, l, M)
  | .reg ops, l, M => (bops C n ops l M).map fun p => (.normal, p)
  | .dreg nk ops, l, M => (bdops C n M.next nk ops l { M with next := M.next + nk } []).map fun p => (.normal, p)
  | .seq a b, l, M => match bexec C K n a l M with
    | some (.normal, l', M') => bexec C K n b l' M'
    | r => r
  | .cond c a b, l, M => match (c.sub (look l)).ev [] with
    | .bool true => bexec C K n a l M
    | .bool false => bexec C K n b l M
    | _ => none
  | .block id c, l, M => match bexec C K n c l M with
    | some (.exit i, l', M') => if i = id then some (.normal, l', M') else some (.exit i, l', M')
    | r => r
  | .loop keep c, l, M => bloop (bexec C K n c) keep K l M
  | .exit id, l, M => some (.exit id, l, M)
  | .ret, l, M => some (.ret, l, M)
  | .fail, _, _ => none

def bRes (r : ARes) (l : Fast) (M : Heap) : Option AV :=
  match r with
  | .tmp t => match look l t with
    | .undef => none
    | v => some v
  | .cell t agg n => aLoad agg n (look l t) M

def bResL : List ARes → Fast → Heap → Option (List AV)
  | [], _, _ => some []
  | r :: rs, l, M => (bRes r l M).bind fun v => (bResL rs l M).map (v :: ·)

def bResults (rs : List ARes) (l : Fast) (M : Heap) : Option AV :=
  (bResL rs l M).map fun vs => match vs with
    | [v] => v
    | vs => .tuple vs

def start : Nat → List AV → Fast
  | _, [] => []
  | i, v :: r => (i, v) :: start (i + 1) r

def bbody (C : ACalls) (K : Nat) (f : AFunc) (args : List AV) (M : Heap) : Option (AV × Heap) :=
  if args.length = f.nargs ∧ f.nargs ≤ f.ntmps then
    match bexec C K f.ntmps f.code (start 0 (args ++ List.replicate (f.ntmps - f.nargs) (.tuple []))) M with
    | some (.normal, l, M') => (bResults f.results l M').map fun v => (v, M')
    | some (.ret, l, M') => (bResults f.results l M').map fun v => (v, M')
    | _ => none
  else none

abbrev Sums := FuncId → Option (List AV → Heap → Option (AV × Heap))

def bcall (G : Sums) (T : FuncId → Option AFunc) (K : Nat) : Nat → ACalls
  | 0, _, _, _ => none
  | d + 1, f, args, M => match G f with
    | some g => g args M
    | none => match T f with
      | some af => bbody (bcall G T K d) K af args M
      | none => none

/-! ### It is the same machine -/

structure Same (n : Nat) (l : Fast) (e : Env) : Prop where
  len : e.length = n
  get : ∀ t, look l t = e.getD t .undef

theorem Same.put {n : Nat} {l : Fast} {e : Env} (s : Same n l e) (d : Option Nat) (v : AV) : Same n (bput n d v l) (aput d v e) := by
  cases d with
  | none => exact s
  | some d =>
    simp only [bput, aput]
    cases hb : Nat.blt d n with
    | false =>
      have hd : e.length ≤ d := by
        rw [s.len]
        refine Nat.le_of_not_lt fun hlt => ?_
        have : Nat.blt d n = true := by simpa [Nat.blt_eq] using hlt
        rw [hb] at this
        cases this
      rw [List.set_eq_of_length_le hd]
      exact s
    | true =>
      have hd : d < n := by simpa [Nat.blt_eq] using hb
      refine ⟨by simp [s.len], fun t => ?_⟩
      simp only [look]
      rw [List.getD_eq_getElem?_getD, List.getElem?_set]
      by_cases h : d = t
      · subst h
        simp [s.len, hd]
      · have : Nat.beq d t = false := by
          cases hh : Nat.beq d t with
          | false => rfl
          | true => exact absurd (Nat.eq_of_beq_eq_true hh) h
        simp only [this, if_neg h]
        rw [s.get t, List.getD_eq_getElem?_getD]

theorem Same.wanted {n : Nat} {l : Fast} {e : Env} (s : Same n l e) (g : Option (Nat × Bool)) : bwanted g l = awanted g e := by
  cases g with
  | none => rfl
  | some g =>
    obtain ⟨t, want⟩ := g
    simp only [bwanted, awanted, s.get]
    generalize e.getD t .undef = x
    cases x <;> rfl

theorem bops_ok {C C' : ACalls} (hC : C.Le C') {n : Nat} : ∀ (ops : List AOper) (l : Fast) (e : Env) (M : Heap) (l' : Fast) (M' : Heap), Same n l e → bops C n ops l M = some (l', M') → ∃ e', aops C' ops e M = some (e', M') ∧ Same n l' e'
  | [], l, e, M, l', M', s, h => by
    simp only [bops, Option.some.injEq, Prod.mk.injEq] at h
    obtain ⟨rfl, rfl⟩ := h
    exact ⟨e, rfl, s⟩
  | o :: r, l, e, M, l', M', s, h => by
    simp only [bops] at h
    rw [s.wanted] at h
    simp only [aops]
    split at h
    · rename_i hw
      rw [hw]
      rw [aop_sub s.get] at h
      split at h
      · rename_i p hp
        rw [force_eq] at h
        simp only [aop_le hC hp, Option.bind_some]
        exact bops_ok hC r _ _ _ _ _ (s.put _ _) h
      · cases h
    · rename_i hw
      rw [hw]
      exact bops_ok hC r _ _ _ _ _ (s.put _ _) h
    · cases h

theorem bdops_ok {C C' : ACalls} (hC : C.Le C') {n base nk : Nat} : ∀ (ops : List DOper) (l : Fast) (e : Env) (M : Heap) (hist : List Heap) (l' : Fast) (M' : Heap), Same n l e → bdops C n base nk ops l M hist = some (l', M') → ∃ e', adops C' base nk ops e M hist = some (e', M') ∧ Same n l' e'
  | [], l, e, M, hist, l', M', s, h => by
    simp only [bdops, Option.some.injEq, Prod.mk.injEq] at h
    obtain ⟨rfl, rfl⟩ := h
    exact ⟨e, rfl, s⟩
  | d :: r, l, e, M, hist, l', M', s, h => by
    simp only [bdops] at h
    rw [s.wanted] at h
    simp only [adops]
    split at h
    · rename_i hw
      rw [hw]
      simp only
      split at h
      · rename_i o ho
        rw [aP_sub s.get] at h
        split at h
        · rename_i v hv
          rw [force_eq] at h
          simp only [ho, hv, Option.bind_some]
          exact bdops_ok hC r _ _ _ _ _ _ (s.put _ _) h
        · cases h
      · rename_i o ho
        simp only [aL_sub' s.get] at h
        split at h
        · rename_i v hv
          simp only [ho, hv, Option.bind_some]
          split at h
          · rename_i hall
            rw [force_eq] at h
            split
            · exact bdops_ok hC r _ _ _ _ _ _ (s.put _ _) h
            · rename_i hn
              exact absurd hall hn
          · cases h
        · cases h
      · rename_i o ho
        rw [aK_sub s.get] at h
        split at h
        · rename_i p hp
          simp only [ho, hp, Option.bind_some]
          exact bdops_ok hC r _ _ _ _ _ _ (s.put _ _) h
        · cases h
      · rename_i o ho
        rw [aN_sub s.get] at h
        split at h
        · rename_i p hp
          rw [force_eq] at h
          simp only [ho, aN_le hC hp, Option.bind_some]
          exact bdops_ok hC r _ _ _ _ _ _ (s.put _ _) h
        · cases h
    · rename_i hw
      rw [hw]
      exact bdops_ok hC r _ _ _ _ _ _ (s.put _ _) h
    · cases h

theorem look_keep (l : Fast) (t : Nat) : ∀ keep : List Nat, look (bkeep l keep) t = if keep.contains t then look l t else .undef
  | [] => by simp [bkeep, look]
  | u :: r => by
    simp only [bkeep, look, List.contains_cons]
    cases hb : Nat.beq u t with
    | true =>
      obtain rfl := Nat.eq_of_beq_eq_true hb
      simp
    | false =>
      have : (t == u) = false := by
        cases h : t == u with
        | false => rfl
        | true =>
          rw [beq_iff_eq] at h
          subst h
          rw [Nat.beq_refl] at hb
          cases hb
      simp only [this, Bool.false_or]
      exact look_keep l t r

theorem keepOnly_getD (keep : List Nat) : ∀ (e : Env) (i t : Nat), (keepOnly keep i e).getD t .undef = if keep.contains (i + t) then e.getD t .undef else .undef
  | [], i, t => by simp [keepOnly]
  | v :: r, i, 0 => by simp [keepOnly]
  | v :: r, i, t + 1 => by
    have := keepOnly_getD keep r (i + 1) t
    simp only [keepOnly, List.getD_cons_succ]
    rw [this, show i + 1 + t = i + (t + 1) from by omega]

theorem keepOnly_length (keep : List Nat) : ∀ (e : Env) (i : Nat), (keepOnly keep i e).length = e.length
  | [], i => rfl
  | v :: r, i => by simp [keepOnly, keepOnly_length keep r]

theorem Same.keep {n : Nat} {l : Fast} {e : Env} (s : Same n l e) (keep : List Nat) : Same n (bkeep l keep) (keepOnly keep 0 e) :=
  ⟨by rw [keepOnly_length, s.len], fun t => by rw [look_keep, keepOnly_getD, Nat.zero_add, s.get]⟩

theorem bloop_ok {n : Nat} {b : Fast → Heap → BOut} {a : Env → Heap → AOut} (h : ∀ l e M x l' M', Same n l e → b l M = some (x, l', M') → ∃ e', a e M = some (x, e', M') ∧ Same n l' e') (keep : List Nat) :
    ∀ (k : Nat) (l : Fast) (e : Env) (M : Heap) (x : Ex) (l' : Fast) (M' : Heap), Same n l e → bloop b keep k l M = some (x, l', M') → ∃ e', aloop a keep k e M = some (x, e', M') ∧ Same n l' e'
  | 0, _, _, _, _, _, _, _, hb => by simp [bloop] at hb
  | k + 1, l, e, M, x, l', M', s, hb => by
    simp only [bloop] at hb
    simp only [aloop]
    split at hb
    · rename_i l1 M1 h1
      obtain ⟨e1, g1, g2⟩ := h _ _ _ _ _ _ (s.keep keep) h1
      rw [g1]
      exact bloop_ok h keep k _ _ _ _ _ _ g2 hb
    · rename_i hne
      obtain ⟨e1, g1, g2⟩ := h _ _ _ _ _ _ (s.keep keep) hb
      rw [g1]
      refine ⟨e1, ?_, g2⟩
      cases x with
      | normal => exact absurd hb (hne _ _)
      | _ => rfl

theorem bexec_ok {C C' : ACalls} (hC : C.Le C') {K n : Nat} : ∀ (c : ACode) (l : Fast) (e : Env) (M : Heap) (x : Ex) (l' : Fast) (M' : Heap), Same n l e → bexec C K n c l M = some (x, l', M') → ∃ e', aexec C' K c e M = some (x, e', M') ∧ Same n l' e'
  | .skip, l, e, M, x, l', M', s, h => by
    simp only [bexec, Option.some.injEq, Prod.mk.injEq] at h
    obtain ⟨rfl, rfl, rfl⟩ := h
    exact ⟨e, rfl, s⟩
  | .reg ops, l, e, M, x, l', M', s, h => by
    simp only [bexec] at h
    obtain ⟨p, hp, h2⟩ := Option.map_eq_some_iff.1 h
    simp only [Prod.mk.injEq] at h2
    obtain ⟨rfl, h3⟩ := h2
    subst h3
    obtain ⟨e', g1, g2⟩ := bops_ok hC ops _ _ _ _ _ s hp
    exact ⟨e', by simp only [aexec, g1, Option.map_some], g2⟩
  | .dreg nk ops, l, e, M, x, l', M', s, h => by
    simp only [bexec] at h
    obtain ⟨p, hp, h2⟩ := Option.map_eq_some_iff.1 h
    simp only [Prod.mk.injEq] at h2
    obtain ⟨rfl, h3⟩ := h2
    subst h3
    obtain ⟨e', g1, g2⟩ := bdops_ok hC ops _ _ _ _ _ _ s hp
    exact ⟨e', by simp only [aexec, g1, Option.map_some], g2⟩
  | .seq a b, l, e, M, x, l', M', s, h => by
    simp only [bexec] at h
    simp only [aexec]
    split at h
    · rename_i l1 M1 h1
      obtain ⟨e1, g1, g2⟩ := bexec_ok hC a _ _ _ _ _ _ s h1
      rw [g1]
      exact bexec_ok hC b _ _ _ _ _ _ g2 h
    · rename_i hne
      obtain ⟨e1, g1, g2⟩ := bexec_ok hC a _ _ _ _ _ _ s h
      rw [g1]
      refine ⟨e1, ?_, g2⟩
      cases x with
      | normal => exact absurd h (hne _ _)
      | _ => rfl
  | .cond c a b, l, e, M, x, l', M', s, h => by
    simp only [bexec] at h
    rw [ev_sub s.get] at h
    simp only [aexec]
    split at h
    · rename_i hc
      rw [hc]
      exact bexec_ok hC a _ _ _ _ _ _ s h
    · rename_i hc
      rw [hc]
      exact bexec_ok hC b _ _ _ _ _ _ s h
    · cases h
  | .block id c, l, e, M, x, l', M', s, h => by
    simp only [bexec] at h
    simp only [aexec]
    split at h
    · rename_i i l1 M1 h1
      obtain ⟨e1, g1, g2⟩ := bexec_ok hC c _ _ _ _ _ _ s h1
      rw [g1]
      simp only
      split at h
      · rename_i hi
        rw [if_pos hi]
        simp only [Option.some.injEq, Prod.mk.injEq] at h
        obtain ⟨rfl, rfl, rfl⟩ := h
        exact ⟨e1, rfl, g2⟩
      · rename_i hi
        rw [if_neg hi]
        simp only [Option.some.injEq, Prod.mk.injEq] at h
        obtain ⟨rfl, rfl, rfl⟩ := h
        exact ⟨e1, rfl, g2⟩
    · rename_i hne
      obtain ⟨e1, g1, g2⟩ := bexec_ok hC c _ _ _ _ _ _ s h
      rw [g1]
      refine ⟨e1, ?_, g2⟩
      cases x with
      | exit i => exact absurd h (hne _ _ _)
      | _ => rfl
  | .loop keep c, l, e, M, x, l', M', s, h => by
    simp only [bexec] at h
    simp only [aexec]
    exact bloop_ok (fun l e M x l' M' s h => bexec_ok hC c l e M x l' M' s h) keep K _ _ _ _ _ _ s h
  | .exit id, l, e, M, x, l', M', s, h => by
    simp only [bexec, Option.some.injEq, Prod.mk.injEq] at h
    obtain ⟨rfl, rfl, rfl⟩ := h
    exact ⟨e, rfl, s⟩
  | .ret, l, e, M, x, l', M', s, h => by
    simp only [bexec, Option.some.injEq, Prod.mk.injEq] at h
    obtain ⟨rfl, rfl, rfl⟩ := h
    exact ⟨e, rfl, s⟩
  | .fail, _, _, _, _, _, _, _, h => by simp [bexec] at h

theorem bResL_eq {n : Nat} {l : Fast} {e : Env} (s : Same n l e) (M : Heap) : ∀ rs : List ARes, bResL rs l M = aResL rs e M
  | [] => rfl
  | r :: rs => by
    have h1 : bRes r l M = aRes r e M := by
      cases r with
      | tmp t =>
        simp only [bRes, aRes, s.get]
        generalize e.getD t .undef = x
        cases x <;> rfl
      | cell t g n => simp only [bRes, aRes, s.get]
    simp only [bResL, aResL, h1, bResL_eq s M rs]

theorem bResults_eq {n : Nat} {l : Fast} {e : Env} (s : Same n l e) (M : Heap) (rs : List ARes) : bResults rs l M = aResults rs e M := by
  unfold bResults aResults
  rw [bResL_eq s]
  congr 1

theorem look_start : ∀ (l : List AV) (i t : Nat), look (start i l) t = if i ≤ t then l.getD (t - i) .undef else .undef
  | [], i, t => by simp [start, look]
  | v :: r, i, t => by
    simp only [start, look]
    cases hb : Nat.beq i t with
    | true =>
      obtain rfl := Nat.eq_of_beq_eq_true hb
      simp
    | false =>
      have hne : i ≠ t := fun e => by subst e; rw [Nat.beq_refl] at hb; cases hb
      simp only
      rw [look_start r (i + 1) t]
      by_cases h : i ≤ t
      · rw [if_pos h, if_pos (by omega), show t - i = (t - (i + 1)) + 1 from by omega, List.getD_cons_succ]
      · rw [if_neg h, if_neg (by omega)]

theorem bbody_ok {C C' : ACalls} (hC : C.Le C') {K : Nat} {f : AFunc} {args : List AV} {M : Heap} {r : AV × Heap} (h : bbody C K f args M = some r) : abody C' K f args M = some r := by
  unfold bbody at h
  unfold abody
  split at h
  case isFalse => cases h
  rename_i hcond
  rw [if_pos hcond]
  have s : Same f.ntmps (start 0 (args ++ List.replicate (f.ntmps - f.nargs) (.tuple []))) (args ++ List.replicate (f.ntmps - f.nargs) (.tuple [])) :=
    ⟨by simp; omega, fun t => by rw [look_start]; simp⟩
  split at h
  · rename_i l M1 h1
    obtain ⟨e1, g1, g2⟩ := bexec_ok hC f.code _ _ _ _ _ _ s h1
    rw [g1]
    rw [bResults_eq g2] at h
    exact h
  · rename_i l M1 h1
    obtain ⟨e1, g1, g2⟩ := bexec_ok hC f.code _ _ _ _ _ _ s h1
    rw [g1]
    rw [bResults_eq g2] at h
    exact h
  · cases h

theorem bcall_ok {G : Sums} {T : FuncId → Option AFunc} {K : Nat} : ∀ d, (bcall G T K d).Le (acall G T K d)
  | 0 => fun f a M r h => by simp [bcall] at h
  | d + 1 => fun f a M r h => by
    simp only [bcall] at h
    simp only [acall]
    split at h
    · rename_i g hg
      rw [hg]
      exact h
    · rename_i hg
      rw [hg]
      split at h
      · rename_i af haf
        rw [haf]
        exact bbody_ok (bcall_ok d) h
      · cases h

end Go.Proofs.Ytachollgbplikaa
