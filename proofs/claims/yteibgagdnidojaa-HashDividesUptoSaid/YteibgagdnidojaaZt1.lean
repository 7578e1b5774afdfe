import Derived.Test.YteibgagdnidojaaAm24
import Derived.Test.YteibgagdnidojaaFn1
set_option linter.unusedVariables false
set_option linter.unusedSimpArgs false
namespace Go.Proofs.Yteibgagdnidojaa

def fstep (h b : Int) : Int := IntKind.u64.wrap (ixor .u64 h b * 1099511628211)

theorem wrap_u8_u64 (b : UInt8) : IntKind.u64.wrap (b.toNat : Int) = (b.toNat : Int) := by
  have := b.toNat_lt
  simp [IntKind.wrap, IntKind.signed, IntKind.bits]
  omega

theorem inner (C : ACalls) (K : Nat) (p : AV) (b : Nat) (M : Heap) (s : List UInt8) (sl : Bool) (hM : M.get b = some (.cells (s.map fun c => .int .u8 c.toNat) false sl)) (v8 v9 v10 : AV) (hsm : s.length ≤ 4611686018427387904) :
   ∀ (r : List UInt8) (j : Nat) (h : Int) (l : Fast) (k : Nat), s.drop j = r → j ≤ s.length → r.length < k → look l 3 = .int .u64 h → look l 8 = v8 → look l 9 = v9 → look l 10 = v10 → look l 15 = .slice (some (b, 0)) 1 s.length s.length false → look l 16 = .int .i64 s.length → look l 17 = .int .i64 j →
   ∃ l', bloop (bexec C K 32 B24_1) [3, 8, 9, 10, 15, 16, 17] k l M = some (.exit 2, l', M) ∧ look l' 3 = .int .u64 (r.foldl (fun h c => fstep h c.toNat) h) ∧ look l' 8 = v8 ∧ look l' 9 = v9 ∧ look l' 10 = v10 := by
  intro r
  induction r with
  | nil =>
    intro j h l k hd hj hk h3 h8 h9 h10 h15 h16 h17
    obtain ⟨k, rfl⟩ : ∃ k', k = k' + 1 := ⟨k - 1, by simp at hk; omega⟩
    have hjl : ¬ ((j : Int) < (s.length : Int)) := by have := List.drop_eq_nil_iff.1 hd; omega
    rw [bloop_succ]
    simp [bkeep_cons, bkeep_nil, h3, h8, h9, h10, h15, h16, h17, B24_1, bexec_seq, bexec_reg, bops_cons, bops_nil, look_cons, bput_some, AOp.sub, POp.sub, AX.sub, aop, aP, aBin, aInts, AX.ev, hjl, bexec]
  | cons c r ih =>
    intro j h l k hd hj hk h3 h8 h9 h10 h15 h16 h17
    obtain ⟨k, rfl⟩ : ∃ k', k = k' + 1 := ⟨k - 1, by simp at hk; omega⟩
    have hjlt : j < s.length := by
      refine Classical.byContradiction fun hc => ?_
      rw [List.drop_eq_nil_of_le (by omega)] at hd
      cases hd
    have hjl : ((j : Int) < (s.length : Int)) := by omega
    have hc : s[j]? = some c := by
      have := congrArg (fun l => l[0]?) hd
      simpa using this
    have hget : (s.map fun c => AV.int .u8 c.toNat)[j]? = some (.int .u8 c.toNat) := by simp [hc]
    have hd' : s.drop (j + 1) = r := by
      have := congrArg (List.drop 1) hd
      simpa [List.drop_drop] using this
    have hwr : IntKind.i64.wrap ((j : Int) + 1) = (j : Int) + 1 := by
      exact wrap_i64 (by omega) (by omega)
    obtain ⟨l', hl', g3, g8, g9, g10, g15, g16, g17⟩ : ∃ l', bexec C K 32 B24_1 (bkeep l [3, 8, 9, 10, 15, 16, 17]) M = some (.normal, l', M) ∧ look l' 3 = .int .u64 (fstep h c.toNat) ∧ look l' 8 = v8 ∧ look l' 9 = v9 ∧ look l' 10 = v10 ∧ look l' 15 = .slice (some (b, 0)) 1 s.length s.length false ∧ look l' 16 = .int .i64 s.length ∧ look l' 17 = .int .i64 ((j + 1 : Nat) : Int) := by
      simp [bkeep_cons, bkeep_nil, h3, h8, h9, h10, h15, h16, h17, B24_1, bexec_seq, bexec_reg, bops_cons, bops_nil, look_cons, bput_some, AOp.sub, POp.sub, LOp.sub, AX.sub, aop, aP, aL, aLoad, aBin, aI_add, aI_mul, aI_xor, aI_lss, AX.ev, fstep, hjl, bexec, bexec_block, hM, hget, hwr, wrap_u8_u64]
    rw [bloop_succ, hl']
    exact ih (j + 1) _ l' k hd' (by omega) (by simp at hk; omega) g3 g8 g9 g10 g15 g16 g17

theorem skolem_if {α β : Type} [Inhabited β] {P : α → Prop} {Q : α → β → Prop} (h : ∀ a, P a → ∃ b, Q a b) : ∃ f : α → β, ∀ a, P a → Q a (f a) := by
  have : ∀ a, ∃ b, P a → Q a b := fun a => by
    by_cases hp : P a
    · obtain ⟨b, hb⟩ := h a hp
      exact ⟨b, fun _ => hb⟩
    · exact ⟨default, fun hp' => absurd hp' hp⟩
  exact Classical.skolem.1 this

def sumBytes (h : Int) (s : List UInt8) : Int := s.foldl (fun h c => fstep h c.toNat) h
def sumParts (h : Int) (l : List (List UInt8)) : Int := l.foldl (fun h s => fstep (sumBytes h s) 256) h

theorem outer (C : ACalls) (K : Nat) (a : AV) (parts : List (List UInt8)) (hpl : parts.length ≤ 4611686018427387904) (hsm : ∀ s ∈ parts, s.length ≤ 1048576) (hK : 1048576 < K) :
   ∀ (r : List (List UInt8)) (i : Nat) (h : Int) (l : Fast) (k : Nat) (M : Heap), M.Wf → SlStr M a parts → parts.drop i = r → i ≤ parts.length → r.length < k → look l 3 = .int .u64 h → look l 8 = a → look l 9 = .int .i64 parts.length → look l 10 = .int .i64 i →
   ∃ l' M', bloop (bexec C K 32 B24_0) [3, 8, 9, 10] k l M = some (.exit 0, l', M') ∧ look l' 3 = .int .u64 (sumParts h r) ∧ Ext M M' := by
  intro r
  induction r with
  | nil =>
    intro i h l k M hwf ha hd hi hk h3 h8 h9 h10
    obtain ⟨k, rfl⟩ : ∃ k', k = k' + 1 := ⟨k - 1, by simp at hk; omega⟩
    have hil : ¬ ((i : Int) < (parts.length : Int)) := by have := List.drop_eq_nil_iff.1 hd; omega
    obtain ⟨l', e1, e2⟩ : ∃ l', bexec C K 32 B24_0 (bkeep l [3, 8, 9, 10]) M = some (.exit 0, l', M) ∧ look l' 3 = .int .u64 h := by
      simp [bkeep_cons, bkeep_nil, h3, h8, h9, h10, B24_0, bexec_seq, bexec_reg, bops_cons, bops_nil, look_cons, bput_some, AOp.sub, POp.sub, AX.sub, aop, aP, aBin, aI_lss, AX.ev, hil, bexec]
    rw [bloop_succ, e1]
    exact ⟨l', M, rfl, by simpa [sumParts] using e2, Ext.refl hwf⟩
  | cons s r ih =>
    intro i h l k M hwf ha hd hi hk h3 h8 h9 h10
    obtain ⟨k, rfl⟩ : ∃ k', k = k' + 1 := ⟨k - 1, by simp at hk; omega⟩
    have hilt : i < parts.length := by
      refine Classical.byContradiction fun hc => ?_
      rw [List.drop_eq_nil_of_le (by omega)] at hd
      cases hd
    have hil : ((i : Int) < (parts.length : Int)) := by omega
    have hs : parts[i]? = some s := by
      have := congrArg (fun l => l[0]?) hd
      simpa using this
    have hd' : parts.drop (i + 1) = r := by
      have := congrArg (List.drop 1) hd
      simpa [List.drop_drop] using this
    have hsl : s.length ≤ 1048576 := hsm s (List.mem_of_getElem? hs)
    have hwr : IntKind.i64.wrap ((i : Int) + 1) = (i : Int) + 1 := wrap_i64 (by omega) (by omega)
    obtain ⟨p, sz, cap, ex, rfl, hp⟩ := ha
    obtain ⟨rfl, b, o, c, ro, sl, rfl, hb, hget⟩ := hp (fun e => by rw [e] at hs; simp at hs)
    have hc := hget i s hs
    have hlen : s.length ≤ 70368744177664 := by omega
    -- the inner loop
    have hin := inner C K .nilFunc M.next (M.push (.cells (s.map fun c => .int .u8 c.toNat) false true)) s true (push_new _ _) (.slice (some (b, o)) 1 parts.length cap ex) (.int .i64 parts.length) (.int .i64 i) (by omega) s 0 h
    obtain ⟨F, hF⟩ := skolem_if (P := fun l0 : Fast => look l0 3 = .int .u64 h ∧ look l0 8 = .slice (some (b, o)) 1 parts.length cap ex ∧ look l0 9 = .int .i64 parts.length ∧ look l0 10 = .int .i64 i ∧ look l0 15 = .slice (some (M.next, 0)) 1 s.length s.length false ∧ look l0 16 = .int .i64 s.length ∧ look l0 17 = .int .i64 ((0 : Nat) : Int)) (fun l0 h0 => hin l0 K (by simp) (by simp) (by omega) h0.1 h0.2.1 h0.2.2.1 h0.2.2.2.1 h0.2.2.2.2.1 h0.2.2.2.2.2.1 h0.2.2.2.2.2.2)
    obtain ⟨l', hl', g3, g8, g9, g10⟩ : ∃ l', bexec C K 32 B24_0 (bkeep l [3, 8, 9, 10]) M = some (.normal, l', M.push (.cells (s.map fun c => .int .u8 c.toNat) false true)) ∧ look l' 3 = .int .u64 (fstep (sumBytes h s) 256) ∧ look l' 8 = .slice (some (b, o)) 1 parts.length cap ex ∧ look l' 9 = .int .i64 parts.length ∧ look l' 10 = .int .i64 ((i + 1 : Nat) : Int) := by
      have f1 := fun l0 h0 => (hF l0 h0).1
      have f3 := fun l0 h0 => (hF l0 h0).2.1
      have f8 := fun l0 h0 => (hF l0 h0).2.2.1
      have f9 := fun l0 h0 => (hF l0 h0).2.2.2.1
      have f10 := fun l0 h0 => (hF l0 h0).2.2.2.2
      clear hF hin ih
      simp [bkeep_cons, bkeep_nil, h3, h8, h9, h10, B24_0, bexec_seq, bexec_reg, bops_cons, bops_nil, look_cons, bput_some, AOp.sub, POp.sub, LOp.sub, KOp.sub, AX.sub, aop, aP, aL, aK, aLoad, aBin, aI_lss, aI_add, aI_mul, aI_xor, AX.ev, hil, bexec, bexec_block, hb, hc, hlen, Mk.val, f1, f3, f8, f9, f10, hwr, fstep, sumBytes]
    rw [bloop_succ, hl']
    have hwf' := Ext.push hwf (.cells (s.map fun c => .int .u8 c.toNat) false true)
    obtain ⟨l2, M2, e1, e2, e3⟩ := ih (i + 1) _ l' k _ hwf'.wf (SlStr.mono hwf'.sub ⟨_, 1, cap, ex, rfl, fun _ => ⟨rfl, b, o, c, ro, sl, rfl, hb, hget⟩⟩) hd' (by omega) (by simp at hk; omega) g3 g8 g9 g10
    exact ⟨l2, M2, e1, e2, hwf'.trans e3⟩

instance : Inhabited Heap := ⟨Heap.empty⟩

theorem SlStr.len {M : Heap} {a : AV} {l : List (List UInt8)} (r : SlStr M a l) : ∃ p sz cap ex, a = .slice p sz l.length cap ex := by
  obtain ⟨p, sz, cap, ex, h, _⟩ := r
  exact ⟨p, sz, cap, ex, h⟩

/-- What hash.Sum comes to. -/
theorem sum_spec {G : Sums} {T : FuncId → Option AFunc} {K d : Nat} (g24 : G 24 = none) (h24 : T 24 = some F24) (hK : 1048577 < K) {M : Heap} (hwf : M.Wf) {a : AV} {parts : List (List UInt8)} (ha : SlStr M a parts) (hpl : parts.length ≤ 1048576) (hsm : ∀ s ∈ parts, s.length ≤ 1048576) :
    ∃ M', bcall G T K (d + 1) 24 [a] M = some (.int .u64 (sumParts 14695981039346656037 parts), M') ∧ Ext M M' := by
  obtain ⟨F, hF⟩ := skolem_if (P := fun l0 : Fast => look l0 3 = .int .u64 14695981039346656037 ∧ look l0 8 = a ∧ look l0 9 = .int .i64 parts.length ∧ look l0 10 = .int .i64 ((0 : Nat) : Int))
    (Q := fun (l0 : Fast) (r : Fast × Heap) => bloop (bexec (bcall G T K d) K 32 B24_0) [3, 8, 9, 10] K l0 M = some (.exit 0, r.1, r.2) ∧ look r.1 3 = .int .u64 (sumParts 14695981039346656037 parts) ∧ Ext M r.2)
    (fun l0 h0 => by
      obtain ⟨l', M', e1, e2, e3⟩ := outer (bcall G T K d) K a parts (by omega) hsm (by omega) parts 0 14695981039346656037 l0 K M hwf ha (by simp) (by simp) (by omega) h0.1 h0.2.1 h0.2.2.1 h0.2.2.2
      exact ⟨(l', M'), e1, e2, e3⟩)
  have f1 := fun l0 h0 => (hF l0 h0).1
  have f3 := fun l0 h0 => (hF l0 h0).2.1
  have f4 := fun l0 h0 => (hF l0 h0).2.2
  obtain ⟨p, sz, cap, ex, rfl⟩ := ha.len
  clear hF ha
  simp [bcall, g24, h24, bbody, F24, start, List.replicate, bexec_seq, bexec_reg, bops_cons, bops_nil, look_cons, bput_some, AOp.sub, POp.sub, AX.sub, aop, aP, AX.ev, bexec, bexec_block, f1, f3, f4, bResults, bResL, bRes, List.replicate_succ]
end Go.Proofs.Yteibgagdnidojaa
