/- The document's Take, Takes, TakeText: what they come to: what the program's come to. -/
import Derived.Test.YteibgagdnidojaaQRNums
set_option linter.all false
set_option linter.unusedSimpArgs false
namespace Go.Proofs.Yteibgagdnidojaa

theorem decA_app (x : Nat) (s t : List UInt8) : decA x (s ++ t) = decA (decA x t) s := by simp [decA]
theorem decA_add (x : Nat) : ∀ s : List UInt8, decA x s = decA 0 s + x * 128 ^ s.length
  | [] => by simp [decA]
  | b :: s => by
    have ih := decA_add x s
    simp only [decA, List.foldr_cons, List.length_cons, Nat.pow_succ] at ih ⊢
    rw [ih, Nat.add_mul, Nat.mul_assoc]
    omega

theorem runL_app {α σ ρ : Type} (step : σ → α → σ ⊕ ρ) : ∀ (a b : List α) (s : σ), runL step s (a ++ b) = match runL step s a with
    | .inl s' => runL step s' b
    | .inr e => .inr e
  | [], b, s => rfl
  | x :: a, b, s => by
    simp only [List.cons_append, runL]
    cases step s x with
    | inl t => exact runL_app step a b t
    | inr e => rfl

theorem idx_high : ∀ (p : List UInt8) (a : Nat), (∀ b ∈ p, 128 ≤ b.toNat) → runL idxStep a p = .inl (a + p.length)
  | [], a, _ => rfl
  | b :: p, a, h => by
    have h1 := h b (by simp)
    have c : ¬ b.toNat < 128 := by omega
    simp only [runL, idxStep, c, if_false]
    rw [idx_high p (a + 1) fun x hx => h x (by simp [hx])]
    simp only [List.length_cons, Sum.inl.injEq]
    omega

theorem idxOf_at (p : List UInt8) (c : UInt8) (t : List UInt8) (h : ∀ b ∈ p, 128 ≤ b.toNat) (hc : c.toNat < 128) : idxOf (p ++ c :: t) = some p.length := by
  simp only [idxOf]
  rw [runL_app, idx_high p 0 h]
  simp [runL, idxStep, hc]

theorem idxOf_ge {p t : List UInt8} {i : Nat} (h : ∀ b ∈ p, 128 ≤ b.toNat) (hi : idxOf (p ++ t) = some i) : p.length ≤ i := by
  simp only [idxOf] at hi
  rw [runL_app, idx_high p 0 h] at hi
  simp only [Nat.zero_add] at hi
  cases hr : runL idxStep p.length t with
  | inl x => rw [hr] at hi; cases hi
  | inr x =>
    rw [hr] at hi
    have := (idx_lt t p.length x hr).1
    have := Option.some.inj hi
    omega

theorem idxOf_app_none {p t : List UInt8} (h : ∀ b ∈ p, 128 ≤ b.toNat) : idxOf (p ++ t) = none ↔ idxOf t = none := by
  rw [idxOf_none, idxOf_none]
  simp only [List.mem_append]
  exact ⟨fun g b hb => g b (.inr hb), fun g b hb => hb.elim (h b) (g b)⟩

/-- What is too long. -/
theorem takeR_late {p t : List UInt8} (h : ∀ b ∈ p, 128 ≤ b.toNat) (hb : ∀ i, idxOf (p ++ t) = some i → 9 ≤ i ∨ 4611686018427387903 < decA 0 ((p ++ t).take (i + 1))) : takeR (p ++ t) = (0, [], lateOf t) := by
  have hl : lateOf t ≠ 0 := by unfold lateOf; split <;> decide
  have hT : takeOf (p ++ t) = (0, 0, lateOf t) := by
    unfold takeOf lateOf
    cases hi : idxOf (p ++ t) with
    | none => simp [(idxOf_app_none h).1 hi]
    | some i =>
      have hn : idxOf t ≠ none := fun e => by rw [(idxOf_app_none h).2 e] at hi; cases hi
      simp only [hn, if_false]
      rcases hb i hi with h9 | hbig
      · simp [h9]
      · by_cases h9 : 9 ≤ i ∨ 0 < i ∧ (p ++ t)[i]? = some 0
        · simp only [if_pos h9]
        · rw [if_neg h9, if_pos hbig]
  simp only [takeR, hT, if_neg hl]

theorem rtake_eq : ∀ (t p : List UInt8) (n : Nat), (∀ b ∈ p, 128 ≤ b.toNat) → n = decA 0 p → p.length ≤ 9 →
    (match runL (rstep (p ++ t)) (n, p.length) t with
    | .inl _ => ((0, [], 3) : Int × List UInt8 × Int)
    | .inr r => r) = takeR (p ++ t)
  | [], p, n, hp, hn, hl => by
    have : idxOf p = none := by rw [idxOf_none]; exact hp
    simp [runL, takeR, takeOf, this]
  | c :: t, p, n, hp, hn, hl => by
    have hp8 : (128 : Nat) ^ 8 = 72057594037927936 := by decide
    simp only [runL, rstep]
    have hdrop : (p ++ c :: t).drop p.length = c :: t := by simp
    have hdrop1 : (p ++ c :: t).drop (p.length + 1) = t := by simp
    by_cases c9 : p.length = 9 ∨ p.length = 8 ∧ 64 ≤ c.toNat % 128
    · rw [if_pos c9]
      simp only [hdrop]
      refine (takeR_late hp fun i hi => ?_).symm
      have hge := idxOf_ge hp hi
      rcases c9 with c9 | ⟨c8, hc⟩
      · exact .inl (by omega)
      · by_cases h128 : 128 ≤ c.toNat
        · have hp' : ∀ b ∈ p ++ [c], 128 ≤ b.toNat := fun b hb => by
            rcases List.mem_append.1 hb with h | h
            · exact hp b h
            · simp at h; subst h; exact h128
          have := idxOf_ge (p := p ++ [c]) (t := t) hp' (by simpa using hi)
          simp at this
          exact .inl (by omega)
        · have := idxOf_at p c t hp (by omega)
          rw [this] at hi
          obtain rfl := Option.some.inj hi
          refine .inr ?_
          have e : (p ++ c :: t).take (p.length + 1) = p ++ [c] := by simp [List.take_append, List.take_of_length_le (Nat.le_succ p.length)]
          rw [e, decA_app, decA_add _ p]
          simp only [decA, List.foldr_cons, List.foldr_nil, Nat.zero_mul, Nat.zero_add]
          rw [c8, hp8]
          omega
    rw [if_neg c9]
    by_cases h128 : 128 ≤ c.toNat
    · rw [if_pos h128]
      have hp' : ∀ b ∈ p ++ [c], 128 ≤ b.toNat := fun b hb => by
        rcases List.mem_append.1 hb with h | h
        · exact hp b h
        · simp at h; subst h; exact h128
      have hn' : n + c.toNat % 128 * 128 ^ p.length = decA 0 (p ++ [c]) := by
        rw [decA_app, decA_add _ p, hn]
        simp [decA]
      have ih := rtake_eq t (p ++ [c]) _ hp' hn' (by simp; omega)
      simpa using ih
    · rw [if_neg h128]
      have hx := idxOf_at p c t hp (by omega)
      have hget : (p ++ c :: t)[p.length]? = some c := by simp
      have hc0 : (c = 0) ↔ c.toNat = 0 := ⟨fun h => by subst h; rfl, fun h => UInt8.toNat_inj.1 (by simpa using h)⟩
      by_cases hz : c.toNat = 0 ∧ 0 < p.length
      · rw [if_pos hz]
        have c0 : c = 0 := hc0.2 hz.1
        have : 9 ≤ p.length ∨ 0 < p.length ∧ (p ++ c :: t)[p.length]? = some 0 := .inr ⟨hz.2, by rw [hget, c0]⟩
        simp only [takeR, takeOf, hx, if_pos this]
        simp
      · rw [if_neg hz]
        have nz : ¬ (9 ≤ p.length ∨ 0 < p.length ∧ (p ++ c :: t)[p.length]? = some 0) := by
          rintro (h | ⟨h1, h2⟩)
          · omega
          · rw [hget] at h2
            exact hz ⟨hc0.1 (Option.some.inj h2), h1⟩
        have e : (p ++ c :: t).take (p.length + 1) = p ++ [c] := by simp [List.take_append, List.take_of_length_le (Nat.le_succ p.length)]
        have hn' : decA 0 (p ++ [c]) = n + c.toNat % 128 * 128 ^ p.length := by
          rw [decA_app, decA_add _ p, hn]
          simp [decA]
        have hlt := decA_lt p
        have small : ¬ 4611686018427387903 < n + c.toNat % 128 * 128 ^ p.length := by
          rcases Nat.lt_or_ge p.length 8 with h | h
          · have hq : (128 : Nat) ^ p.length ≤ 128 ^ 7 := Nat.pow_le_pow_right (by decide) (by omega)
            have hq7 : (128 : Nat) ^ 7 = 562949953421312 := by decide
            have : c.toNat % 128 * 128 ^ p.length ≤ 127 * 562949953421312 := Nat.mul_le_mul (by omega) (by omega)
            omega
          · have h8 : p.length = 8 := by omega
            rw [h8, hp8] at hlt ⊢
            have : c.toNat % 128 ≤ 63 := by omega
            have : c.toNat % 128 * 72057594037927936 ≤ 63 * 72057594037927936 := Nat.mul_le_mul_right _ this
            omega
        simp only [takeR, takeOf, hx, if_neg nz, e, hn', if_neg small]
        simp

theorem rtake_run (s : List UInt8) : (match runL (rstep s) (0, 0) s with
    | .inl _ => ((0, [], 3) : Int × List UInt8 × Int)
    | .inr r => r) = takeR s := by
  have := rtake_eq s [] 0 (by simp) (by simp [decA]) (by simp)
  simpa using this

theorem rtake_loop {kn K d : Nat} (hk : isKn kn = true) (hK : 1099511627776 < K) (H : Heap) (hH : H.Ok) (s : List UInt8) (ex : Bool) (hs : s.length ≤ 1099511627776) :
    VU73_0 (vcall kn vtab K (d + 1)) K (fr1 H) K ([(0, .list 1 s.length (s.map byteC) ex), (5, .int .i64 0), (6, .int .i64 0)], H) = some (rfin H (runL (rstep s) (0, 0) s)) :=
  vrun_listE (L := s) (st := fun p _ => ([(0, .list 1 s.length (s.map byteC) ex), (5, .int .i64 p.1), (6, .int .i64 p.2)], H)) (fin := rfin H) (step := rstep s) (fun p i => p.2 = i ∧ p.1 < 128 ^ i ∧ i ≤ 9)
    (fun p i p' hi hp he => by
      obtain ⟨n, j⟩ := p
      obtain ⟨rfl, hn, h9⟩ := hp
      have h := rtake_round (d := d) hk hK H hH s ex hs n j hi hn h9
      rw [he] at h
      refine ⟨?_, h⟩
      simp only [rstep] at he
      split at he
      · cases he
      rename_i c9
      split at he
      · obtain rfl := Sum.inl.inj he
        have c9' : ¬ (j = 9 ∨ j = 8 ∧ 64 ≤ s[j].toNat % 128) := c9
        refine ⟨rfl, ?_, by omega⟩
        show n + s[j].toNat % 128 * 128 ^ j < 128 ^ (j + 1)
        rw [Nat.pow_succ]
        have hn : n < 128 ^ j := hn
        have : s[j].toNat % 128 * 128 ^ j ≤ 127 * 128 ^ j := Nat.mul_le_mul_right _ (by omega)
        omega
      · split at he <;> cases he)
    (fun p i e hi hp he => by
      obtain ⟨n, j⟩ := p
      obtain ⟨rfl, hn, h9⟩ := hp
      have h := rtake_round (d := d) hk hK H hH s ex hs n j hi hn h9
      rw [he] at h
      exact h)
    (fun p hp => by
      obtain ⟨n, j⟩ := p
      obtain ⟨h, _⟩ := hp
      simp only at h
      subst h
      simp (maxDischargeDepth := 20) [VB73_0, vst_some, vgd_true, vgd_false, vgo_nil, vgo_cons, vgo_guard, bwanted_some, vop_p, vop_l, vop_k, vop_n, vnorm_some, vseqc_normal, vseqc_exit, vseqc_ret, vcondc_true, vcondc_false, vexec_dreg, vdgo_nil, vdgo_p, vdgo_l, vdgo_k, vdgo_n, vdgo_gp, vdgo_gl, vdgo_gk, vdgo_gn, vdp_some, vdl_some, vdk_some, vdn_some, vdw_true, vdw_false, room_zero, room_put, get_room, next_room, get_hide, hide_zero, vexec_skip, vexec_exit, vexec_ret, vexec_reg, vexec_seq, vexec_cond, vexec_block, vexec_loop, blockO_exit, blockO_normal, blockO_ret, vfin_some, vend_normal, vend_ret, vbody_eq, outO_normal, outO_exit, outO_ret, vround_eq, vkeep_false, bkeep_cons, bkeep_nil, bput_some, bput_none, look_cons, look_nil, AOp.sub, POp.sub, LOp.sub, KOp.sub, NOp.sub, AX.sub, AX.subO, AX.ev, vP, vL, vK, vN, vElems, vElemSize, aP, aL, aK, aN, cB_add, cB_sub, cB_mul, cB_eql, cB_neq, cB_lss, cB_leq, cB_gtr, cB_geq, cB_xor, cB_and, cB_or, cS_eql, cS_neq, cS_lss, cS_leq, cS_gtr, cS_geq, aLoad, aBytesStr, aElems, aElemSize, Mk.val, next_push, next_put, get_push, get_put, Heap.read, List.replicate, List.replicate_succ, start, vRes, vResL, vResults, List.headD, vfrz_some, vexit_eq, vexit1_frozen, vexit1_gc, vexit2_some, solV, solL, solz_succ, solz_zero, solF_some, sol1, List.tail_cons, List.tail_nil, frzL_nil, frzL_cons', frzM_some, frz_int, frz_bool, frz_str, frz_nilFunc, frz_undef, frz_list, frz_elem, frz_nilptr, frz_nilmap, frz_fn, frz_ptr, frz_nilslice, frz_func, frz_agg, frz_tuple, frz_slice, frz_acc, frzS_eq, frzTidy_nil, ice_nil, next_ice, get_ice, iceB_some, vAppend, fitsB, aFill, aPart, aUn, AV.cells?, AV.isCell, reps, byteC_def, accB, blkB, fr1, List.drop_succ_cons, List.drop_zero, List.drop_nil, vkeep_true, gc, gcIds, reach, grow, idsOfL, idsOf, ddup, gcPush, gcTidy, zipKeep, renL, ren, renId, ixOf, cellsOf, cut_zero, cut_p1, cut_p2, cut_p3, cut_p4, cut_app, cut_app0, cut_app1, cut_push, cut_put_lt, cut_put_ge, cut_ice, new_lt, new_lt2, new_lt3, new_lt4, new_le2, new_le3, new_le4, eqn_a, eqn_b, eqn_c, eqn_d, eqn_e, eqn_f, next_cut, get_cut, put_put, idsOfL_append, renL_append, idsOfL_bytes, idsOfL_strs, idsOfL_ints, renL_bytes, renL_strs, renL_ints, frzL_bytes, frzL_strs, frzL_ints, frzL_drop, frzL_take, idsOfL_drop, idsOfL_take, renL_drop, renL_take, toBytes_map, toBytes_drop, toBytes_take, toBytes_td, idsOf_byteC, ren_byteC, frz_byteC, next_empty, rfin, cut_self _ hH, ice_new hH]) s 0 K (0, 0) rfl (Nat.zero_le _) ⟨rfl, by simp, by omega⟩ (by omega)

theorem rtake_spec {kn K d : Nat} (hk : isKn kn = true) (hK : 1099511627776 < K) (fr : Fr) (H : Heap) (hH : H.Ok) (s : List UInt8) (ex : Bool) (hs : s.length ≤ 1099511627776) :
    vcallB (vcall kn vtab K (d + 1)) vtab K fr 73 [.list 1 s.length (s.map byteC) ex] H = some (.tuple [.int .i64 (takeR s).1, .list 1 (takeR s).2.1.length ((takeR s).2.1.map byteC) false, .int .i64 (takeR s).2.2], H) := by
  rw [body_bare rfl rfl, ← rtake_run]
  have h1 := rtake_loop (d := d) hk hK H hH s ex hs
  cases hr : runL (rstep s) (0, 0) s with
  | inl p =>
    rw [hr] at h1
    simp only [rfin, accB, blkB, fr1] at h1
    simp (maxDischargeDepth := 20) [VF73, vst_some, vgd_true, vgd_false, vgo_nil, vgo_cons, vgo_guard, bwanted_some, vop_p, vop_l, vop_k, vop_n, vnorm_some, vseqc_normal, vseqc_exit, vseqc_ret, vcondc_true, vcondc_false, vexec_dreg, vdgo_nil, vdgo_p, vdgo_l, vdgo_k, vdgo_n, vdgo_gp, vdgo_gl, vdgo_gk, vdgo_gn, vdp_some, vdl_some, vdk_some, vdn_some, vdw_true, vdw_false, room_zero, room_put, get_room, next_room, get_hide, hide_zero, vexec_skip, vexec_exit, vexec_ret, vexec_reg, vexec_seq, vexec_cond, vexec_block, vexec_loop, blockO_exit, blockO_normal, blockO_ret, vfin_some, vend_normal, vend_ret, vbody_eq, outO_normal, outO_exit, outO_ret, vround_eq, vkeep_false, bkeep_cons, bkeep_nil, bput_some, bput_none, look_cons, look_nil, AOp.sub, POp.sub, LOp.sub, KOp.sub, NOp.sub, AX.sub, AX.subO, AX.ev, vP, vL, vK, vN, vElems, vElemSize, aP, aL, aK, aN, cB_add, cB_sub, cB_mul, cB_eql, cB_neq, cB_lss, cB_leq, cB_gtr, cB_geq, cB_xor, cB_and, cB_or, cS_eql, cS_neq, cS_lss, cS_leq, cS_gtr, cS_geq, aLoad, aBytesStr, aElems, aElemSize, Mk.val, next_push, next_put, get_push, get_put, Heap.read, List.replicate, List.replicate_succ, start, vRes, vResL, vResults, List.headD, vfrz_some, vexit_eq, vexit1_frozen, vexit1_gc, vexit2_some, solV, solL, solz_succ, solz_zero, solF_some, sol1, List.tail_cons, List.tail_nil, frzL_nil, frzL_cons', frzM_some, frz_int, frz_bool, frz_str, frz_nilFunc, frz_undef, frz_list, frz_elem, frz_nilptr, frz_nilmap, frz_fn, frz_ptr, frz_nilslice, frz_func, frz_agg, frz_tuple, frz_slice, frz_acc, frzS_eq, frzTidy_nil, ice_nil, next_ice, get_ice, iceB_some, vAppend, fitsB, aFill, aPart, aUn, AV.cells?, AV.isCell, reps, byteC_def, accB, blkB, fr1, List.drop_succ_cons, List.drop_zero, List.drop_nil, vkeep_true, gc, gcIds, reach, grow, idsOfL, idsOf, ddup, gcPush, gcTidy, zipKeep, renL, ren, renId, ixOf, cellsOf, cut_zero, cut_p1, cut_p2, cut_p3, cut_p4, cut_app, cut_app0, cut_app1, cut_push, cut_put_lt, cut_put_ge, cut_ice, new_lt, new_lt2, new_lt3, new_lt4, new_le2, new_le3, new_le4, eqn_a, eqn_b, eqn_c, eqn_d, eqn_e, eqn_f, next_cut, get_cut, put_put, idsOfL_append, renL_append, idsOfL_bytes, idsOfL_strs, idsOfL_ints, renL_bytes, renL_strs, renL_ints, frzL_bytes, frzL_strs, frzL_ints, frzL_drop, frzL_take, idsOfL_drop, idsOfL_take, renL_drop, renL_take, toBytes_map, toBytes_drop, toBytes_take, toBytes_td, idsOf_byteC, ren_byteC, frz_byteC, next_empty, h1, ok_push, hH, cut_self _ hH, ice_new hH]
  | inr r =>
    rw [hr] at h1
    simp only [rfin, accB, blkB, fr1] at h1
    simp (maxDischargeDepth := 20) [VF73, vst_some, vgd_true, vgd_false, vgo_nil, vgo_cons, vgo_guard, bwanted_some, vop_p, vop_l, vop_k, vop_n, vnorm_some, vseqc_normal, vseqc_exit, vseqc_ret, vcondc_true, vcondc_false, vexec_dreg, vdgo_nil, vdgo_p, vdgo_l, vdgo_k, vdgo_n, vdgo_gp, vdgo_gl, vdgo_gk, vdgo_gn, vdp_some, vdl_some, vdk_some, vdn_some, vdw_true, vdw_false, room_zero, room_put, get_room, next_room, get_hide, hide_zero, vexec_skip, vexec_exit, vexec_ret, vexec_reg, vexec_seq, vexec_cond, vexec_block, vexec_loop, blockO_exit, blockO_normal, blockO_ret, vfin_some, vend_normal, vend_ret, vbody_eq, outO_normal, outO_exit, outO_ret, vround_eq, vkeep_false, bkeep_cons, bkeep_nil, bput_some, bput_none, look_cons, look_nil, AOp.sub, POp.sub, LOp.sub, KOp.sub, NOp.sub, AX.sub, AX.subO, AX.ev, vP, vL, vK, vN, vElems, vElemSize, aP, aL, aK, aN, cB_add, cB_sub, cB_mul, cB_eql, cB_neq, cB_lss, cB_leq, cB_gtr, cB_geq, cB_xor, cB_and, cB_or, cS_eql, cS_neq, cS_lss, cS_leq, cS_gtr, cS_geq, aLoad, aBytesStr, aElems, aElemSize, Mk.val, next_push, next_put, get_push, get_put, Heap.read, List.replicate, List.replicate_succ, start, vRes, vResL, vResults, List.headD, vfrz_some, vexit_eq, vexit1_frozen, vexit1_gc, vexit2_some, solV, solL, solz_succ, solz_zero, solF_some, sol1, List.tail_cons, List.tail_nil, frzL_nil, frzL_cons', frzM_some, frz_int, frz_bool, frz_str, frz_nilFunc, frz_undef, frz_list, frz_elem, frz_nilptr, frz_nilmap, frz_fn, frz_ptr, frz_nilslice, frz_func, frz_agg, frz_tuple, frz_slice, frz_acc, frzS_eq, frzTidy_nil, ice_nil, next_ice, get_ice, iceB_some, vAppend, fitsB, aFill, aPart, aUn, AV.cells?, AV.isCell, reps, byteC_def, accB, blkB, fr1, List.drop_succ_cons, List.drop_zero, List.drop_nil, vkeep_true, gc, gcIds, reach, grow, idsOfL, idsOf, ddup, gcPush, gcTidy, zipKeep, renL, ren, renId, ixOf, cellsOf, cut_zero, cut_p1, cut_p2, cut_p3, cut_p4, cut_app, cut_app0, cut_app1, cut_push, cut_put_lt, cut_put_ge, cut_ice, new_lt, new_lt2, new_lt3, new_lt4, new_le2, new_le3, new_le4, eqn_a, eqn_b, eqn_c, eqn_d, eqn_e, eqn_f, next_cut, get_cut, put_put, idsOfL_append, renL_append, idsOfL_bytes, idsOfL_strs, idsOfL_ints, renL_bytes, renL_strs, renL_ints, frzL_bytes, frzL_strs, frzL_ints, frzL_drop, frzL_take, idsOfL_drop, idsOfL_take, renL_drop, renL_take, toBytes_map, toBytes_drop, toBytes_take, toBytes_td, idsOf_byteC, ren_byteC, frz_byteC, next_empty, h1, take_map, ok_push, hH, cut_self _ hH, ice_new hH]

/-! ### Takes -/

def rtakesStep (p : List Int × List UInt8) (_ : Unit) : (List Int × List UInt8) ⊕ (Int × List Int × List UInt8) :=
  if (takeR p.2).2.2 = 0 then .inl (p.1 ++ [(takeR p.2).1], (takeR p.2).2.1) else .inr ((takeR p.2).2.2, p.1, p.2)
def rtakesFin (H : Heap) : (List Int × List UInt8) ⊕ (Int × List Int × List UInt8) → Ex × Fast × Heap
  | .inl p => (.exit 0, [(4, .undef), (5, .undef), (6, .undef), (7, accI H p.1), (8, .list 1 p.2.length (p.2.map byteC) false)], blkI H p.1)
  | .inr e => (.ret, [(4, accI H []), (5, .acc (H.next + 1) 0 1 0 true), (6, .int .i64 e.1), (7, .acc (H.next + 2) 0 1 e.2.1.length true), (8, .list 1 e.2.2.length (e.2.2.map byteC) false)], ((blkI H []).push (.cells [] false true)).push (.cells (e.2.1.map (.int .i64)) false true))

theorem takeR_len (s : List UInt8) : (takeR s).2.1.length ≤ s.length := by
  simp only [takeR]
  split
  · simp
  · simp

theorem rtakes_round {kn K d : Nat} (hk : isKn kn = true) (hK : 1099511627776 < K) (H : Heap) (hH : H.Ok) (count : Int) (i : Nat) (hi : (i : Int) < count) (hn : count ≤ 1000) (l : List Int) (hl : l.length ≤ 1000) (s : List UInt8) (hs : s.length ≤ 1099511627776) :
    VR74_0 (vcall kn vtab K (d + 2)) K (fr1 H) ([(1, .int .i64 count), (7, accI H l), (8, .list 1 s.length (s.map byteC) false), (9, .int .i64 i)], blkI H l) = some (match rtakesStep (l, s) () with
      | .inl p => .inl ([(1, .int .i64 count), (7, accI H p.1), (8, .list 1 p.2.length (p.2.map byteC) false), (9, .int .i64 (i + 1 : Nat))], blkI H p.1)
      | .inr e => .inr (rtakesFin H (.inr e))) := by
  have c1 := fun fr H args => call_of (K := K) (d := d + 1) (fr := fr) (args := args) (H := H) hk (f := 73) rfl rfl
  have h1 := fun fr ex H hH => rtake_spec (K := K) (d := d) hk hK fr H hH s ex hs
  simp only [rtakesStep]
  generalize takeR s = t at *
  obtain ⟨x, r, e⟩ := t
  have hwr : IntKind.i64.wrap ((i : Int) + 1) = (i : Int) + 1 := by rw [wrap_i64] <;> omega
  have w3 : (l.length + 1) * 8 ≤ 70368744177664 ∧ l.length + 1 ≤ 70368744177664 := by omega
  by_cases he : e = 0
  · subst he
    simp (maxDischargeDepth := 20) [VB74_0, vst_some, vgd_true, vgd_false, vgo_nil, vgo_cons, vgo_guard, bwanted_some, vop_p, vop_l, vop_k, vop_n, vnorm_some, vseqc_normal, vseqc_exit, vseqc_ret, vcondc_true, vcondc_false, vexec_dreg, vdgo_nil, vdgo_p, vdgo_l, vdgo_k, vdgo_n, vdgo_gp, vdgo_gl, vdgo_gk, vdgo_gn, vdp_some, vdl_some, vdk_some, vdn_some, vdw_true, vdw_false, room_zero, room_put, get_room, next_room, get_hide, hide_zero, vexec_skip, vexec_exit, vexec_ret, vexec_reg, vexec_seq, vexec_cond, vexec_block, vexec_loop, blockO_exit, blockO_normal, blockO_ret, vfin_some, vend_normal, vend_ret, vbody_eq, outO_normal, outO_exit, outO_ret, vround_eq, vkeep_false, bkeep_cons, bkeep_nil, bput_some, bput_none, look_cons, look_nil, AOp.sub, POp.sub, LOp.sub, KOp.sub, NOp.sub, AX.sub, AX.subO, AX.ev, vP, vL, vK, vN, vElems, vElemSize, aP, aL, aK, aN, cB_add, cB_sub, cB_mul, cB_eql, cB_neq, cB_lss, cB_leq, cB_gtr, cB_geq, cB_xor, cB_and, cB_or, cS_eql, cS_neq, cS_lss, cS_leq, cS_gtr, cS_geq, aLoad, aBytesStr, aElems, aElemSize, Mk.val, next_push, next_put, get_push, get_put, Heap.read, List.replicate, List.replicate_succ, start, vRes, vResL, vResults, List.headD, vfrz_some, vexit_eq, vexit1_frozen, vexit1_gc, vexit2_some, solV, solL, solz_succ, solz_zero, solF_some, sol1, List.tail_cons, List.tail_nil, frzL_nil, frzL_cons', frzM_some, frz_int, frz_bool, frz_str, frz_nilFunc, frz_undef, frz_list, frz_elem, frz_nilptr, frz_nilmap, frz_fn, frz_ptr, frz_nilslice, frz_func, frz_agg, frz_tuple, frz_slice, frz_acc, frzS_eq, frzTidy_nil, ice_nil, next_ice, get_ice, iceB_some, vAppend, fitsB, aFill, aPart, aUn, AV.cells?, AV.isCell, reps, byteC_def, accB, blkB, fr1, List.drop_succ_cons, List.drop_zero, List.drop_nil, vkeep_true, gc, gcIds, reach, grow, idsOfL, idsOf, ddup, gcPush, gcTidy, zipKeep, renL, ren, renId, ixOf, cellsOf, cut_zero, cut_p1, cut_p2, cut_p3, cut_p4, cut_app, cut_app0, cut_app1, cut_push, cut_put_lt, cut_put_ge, cut_ice, new_lt, new_lt2, new_lt3, new_lt4, new_le2, new_le3, new_le4, eqn_a, eqn_b, eqn_c, eqn_d, eqn_e, eqn_f, next_cut, get_cut, put_put, idsOfL_append, renL_append, idsOfL_bytes, idsOfL_strs, idsOfL_ints, renL_bytes, renL_strs, renL_ints, frzL_bytes, frzL_strs, frzL_ints, frzL_drop, frzL_take, idsOfL_drop, idsOfL_take, renL_drop, renL_take, toBytes_map, toBytes_drop, toBytes_take, toBytes_td, idsOf_byteC, ren_byteC, frz_byteC, next_empty, accI, blkI, c1, h1, hi, hwr, w3, take_map, ok_push, hH, cut_self _ hH, ice_new hH]
  · simp (maxDischargeDepth := 20) [VB74_0, vst_some, vgd_true, vgd_false, vgo_nil, vgo_cons, vgo_guard, bwanted_some, vop_p, vop_l, vop_k, vop_n, vnorm_some, vseqc_normal, vseqc_exit, vseqc_ret, vcondc_true, vcondc_false, vexec_dreg, vdgo_nil, vdgo_p, vdgo_l, vdgo_k, vdgo_n, vdgo_gp, vdgo_gl, vdgo_gk, vdgo_gn, vdp_some, vdl_some, vdk_some, vdn_some, vdw_true, vdw_false, room_zero, room_put, get_room, next_room, get_hide, hide_zero, vexec_skip, vexec_exit, vexec_ret, vexec_reg, vexec_seq, vexec_cond, vexec_block, vexec_loop, blockO_exit, blockO_normal, blockO_ret, vfin_some, vend_normal, vend_ret, vbody_eq, outO_normal, outO_exit, outO_ret, vround_eq, vkeep_false, bkeep_cons, bkeep_nil, bput_some, bput_none, look_cons, look_nil, AOp.sub, POp.sub, LOp.sub, KOp.sub, NOp.sub, AX.sub, AX.subO, AX.ev, vP, vL, vK, vN, vElems, vElemSize, aP, aL, aK, aN, cB_add, cB_sub, cB_mul, cB_eql, cB_neq, cB_lss, cB_leq, cB_gtr, cB_geq, cB_xor, cB_and, cB_or, cS_eql, cS_neq, cS_lss, cS_leq, cS_gtr, cS_geq, aLoad, aBytesStr, aElems, aElemSize, Mk.val, next_push, next_put, get_push, get_put, Heap.read, List.replicate, List.replicate_succ, start, vRes, vResL, vResults, List.headD, vfrz_some, vexit_eq, vexit1_frozen, vexit1_gc, vexit2_some, solV, solL, solz_succ, solz_zero, solF_some, sol1, List.tail_cons, List.tail_nil, frzL_nil, frzL_cons', frzM_some, frz_int, frz_bool, frz_str, frz_nilFunc, frz_undef, frz_list, frz_elem, frz_nilptr, frz_nilmap, frz_fn, frz_ptr, frz_nilslice, frz_func, frz_agg, frz_tuple, frz_slice, frz_acc, frzS_eq, frzTidy_nil, ice_nil, next_ice, get_ice, iceB_some, vAppend, fitsB, aFill, aPart, aUn, AV.cells?, AV.isCell, reps, byteC_def, accB, blkB, fr1, List.drop_succ_cons, List.drop_zero, List.drop_nil, vkeep_true, gc, gcIds, reach, grow, idsOfL, idsOf, ddup, gcPush, gcTidy, zipKeep, renL, ren, renId, ixOf, cellsOf, cut_zero, cut_p1, cut_p2, cut_p3, cut_p4, cut_app, cut_app0, cut_app1, cut_push, cut_put_lt, cut_put_ge, cut_ice, new_lt, new_lt2, new_lt3, new_lt4, new_le2, new_le3, new_le4, eqn_a, eqn_b, eqn_c, eqn_d, eqn_e, eqn_f, next_cut, get_cut, put_put, idsOfL_append, renL_append, idsOfL_bytes, idsOfL_strs, idsOfL_ints, renL_bytes, renL_strs, renL_ints, frzL_bytes, frzL_strs, frzL_ints, frzL_drop, frzL_take, idsOfL_drop, idsOfL_take, renL_drop, renL_take, toBytes_map, toBytes_drop, toBytes_take, toBytes_td, idsOf_byteC, ren_byteC, frz_byteC, next_empty, accI, blkI, rtakesFin, c1, h1, hi, he, hwr, w3, take_map, ok_push, hH, cut_self _ hH, ice_new hH]

theorem rtakes_end (C : VCalls) (K : Nat) (H : Heap) (hH : H.Ok) (count : Int) (i : Nat) (hi : ¬ (i : Int) < count) (l : List Int) (s : List UInt8) :
    VR74_0 C K (fr1 H) ([(1, .int .i64 count), (7, accI H l), (8, .list 1 s.length (s.map byteC) false), (9, .int .i64 i)], blkI H l) = some (.inr (rtakesFin H (.inl (l, s)))) := by
  simp (maxDischargeDepth := 20) [VB74_0, vst_some, vgd_true, vgd_false, vgo_nil, vgo_cons, vgo_guard, bwanted_some, vop_p, vop_l, vop_k, vop_n, vnorm_some, vseqc_normal, vseqc_exit, vseqc_ret, vcondc_true, vcondc_false, vexec_dreg, vdgo_nil, vdgo_p, vdgo_l, vdgo_k, vdgo_n, vdgo_gp, vdgo_gl, vdgo_gk, vdgo_gn, vdp_some, vdl_some, vdk_some, vdn_some, vdw_true, vdw_false, room_zero, room_put, get_room, next_room, get_hide, hide_zero, vexec_skip, vexec_exit, vexec_ret, vexec_reg, vexec_seq, vexec_cond, vexec_block, vexec_loop, blockO_exit, blockO_normal, blockO_ret, vfin_some, vend_normal, vend_ret, vbody_eq, outO_normal, outO_exit, outO_ret, vround_eq, vkeep_false, bkeep_cons, bkeep_nil, bput_some, bput_none, look_cons, look_nil, AOp.sub, POp.sub, LOp.sub, KOp.sub, NOp.sub, AX.sub, AX.subO, AX.ev, vP, vL, vK, vN, vElems, vElemSize, aP, aL, aK, aN, cB_add, cB_sub, cB_mul, cB_eql, cB_neq, cB_lss, cB_leq, cB_gtr, cB_geq, cB_xor, cB_and, cB_or, cS_eql, cS_neq, cS_lss, cS_leq, cS_gtr, cS_geq, aLoad, aBytesStr, aElems, aElemSize, Mk.val, next_push, next_put, get_push, get_put, Heap.read, List.replicate, List.replicate_succ, start, vRes, vResL, vResults, List.headD, vfrz_some, vexit_eq, vexit1_frozen, vexit1_gc, vexit2_some, solV, solL, solz_succ, solz_zero, solF_some, sol1, List.tail_cons, List.tail_nil, frzL_nil, frzL_cons', frzM_some, frz_int, frz_bool, frz_str, frz_nilFunc, frz_undef, frz_list, frz_elem, frz_nilptr, frz_nilmap, frz_fn, frz_ptr, frz_nilslice, frz_func, frz_agg, frz_tuple, frz_slice, frz_acc, frzS_eq, frzTidy_nil, ice_nil, next_ice, get_ice, iceB_some, vAppend, fitsB, aFill, aPart, aUn, AV.cells?, AV.isCell, reps, byteC_def, accB, blkB, fr1, List.drop_succ_cons, List.drop_zero, List.drop_nil, vkeep_true, gc, gcIds, reach, grow, idsOfL, idsOf, ddup, gcPush, gcTidy, zipKeep, renL, ren, renId, ixOf, cellsOf, cut_zero, cut_p1, cut_p2, cut_p3, cut_p4, cut_app, cut_app0, cut_app1, cut_push, cut_put_lt, cut_put_ge, cut_ice, new_lt, new_lt2, new_lt3, new_lt4, new_le2, new_le3, new_le4, eqn_a, eqn_b, eqn_c, eqn_d, eqn_e, eqn_f, next_cut, get_cut, put_put, idsOfL_append, renL_append, idsOfL_bytes, idsOfL_strs, idsOfL_ints, renL_bytes, renL_strs, renL_ints, frzL_bytes, frzL_strs, frzL_ints, frzL_drop, frzL_take, idsOfL_drop, idsOfL_take, renL_drop, renL_take, toBytes_map, toBytes_drop, toBytes_take, toBytes_td, idsOf_byteC, ren_byteC, frz_byteC, next_empty, accI, blkI, rtakesFin, hi, cut_self _ hH, ice_new hH]

theorem rtakes_loop {kn K d : Nat} (hk : isKn kn = true) (hK : 1099511627776 < K) (H : Heap) (hH : H.Ok) (s : List UInt8) (hs : s.length ≤ 1099511627776) (count : Int) (hn : count ≤ 1000) :
    VU74_0 (vcall kn vtab K (d + 2)) K (fr1 H) K ([(1, .int .i64 count), (7, accI H []), (8, .list 1 s.length (s.map byteC) false), (9, .int .i64 0)], blkI H []) = some (rtakesFin H (runL rtakesStep ([], s) (List.replicate count.toNat ()))) :=
  vrun_listE (L := List.replicate count.toNat ()) (st := fun p i => ([(1, .int .i64 count), (7, accI H p.1), (8, .list 1 p.2.length (p.2.map byteC) false), (9, .int .i64 i)], blkI H p.1)) (fin := rtakesFin H) (step := rtakesStep) (fun p i => p.2.length ≤ 1099511627776 ∧ p.1.length = i)
    (fun p i p' hi hp he => by
      have hi' : i < count.toNat := by simpa using hi
      have h := rtakes_round (d := d) hk hK H hH count i (by omega) hn p.1 (by omega) p.2 hp.1
      rw [show rtakesStep (p.1, p.2) () = .inl p' from he] at h
      refine ⟨?_, h⟩
      simp only [rtakesStep] at he
      split at he
      · obtain rfl := Sum.inl.inj he
        have := takeR_len p.2
        exact ⟨by simp only; omega, by simp [hp.2]⟩
      · cases he)
    (fun p i e hi hp he => by
      have hi' : i < count.toNat := by simpa using hi
      have h := rtakes_round (d := d) hk hK H hH count i (by omega) hn p.1 (by omega) p.2 hp.1
      rw [show rtakesStep (p.1, p.2) () = .inr e from he] at h
      exact h)
    (fun p hp => by
      have := rtakes_end (vcall kn vtab K (d + 2)) K H hH count (List.replicate count.toNat ()).length (by simp; omega) p.1 p.2
      exact this) (List.replicate count.toNat ()) 0 K ([], s) rfl (Nat.zero_le _) ⟨hs, rfl⟩ (by simp; omega)

theorem rtakes_eq (s : List UInt8) : ∀ (n : Nat) (l : List Int) (a : Nat), (match runL rtakesStep (l, s.drop a) (List.replicate n ()) with
    | .inl p => ((p.1, p.2, 0) : List Int × List UInt8 × Int)
    | .inr e => ([], [], e.1)) = (match runL (takesStep s) (l, a) (List.replicate n ()) with
    | .inl p => (p.1, s.drop p.2, 0)
    | .inr e => ([], [], e.1))
  | 0, l, a => by simp [runL]
  | n + 1, l, a => by
    simp only [List.replicate_succ, runL, rtakesStep, takesStep]
    by_cases he : (takeOf (s.drop a)).2.2 = 0
    · have : takeR (s.drop a) = ((takeOf (s.drop a)).1, (s.drop a).drop (takeOf (s.drop a)).2.1.toNat, 0) := by simp only [takeR, if_pos he]
      rw [this]
      simp only [if_true, if_pos he]
      rw [List.drop_drop]
      exact rtakes_eq s n _ _
    · have : takeR (s.drop a) = (0, [], (takeOf (s.drop a)).2.2) := by simp only [takeR, if_neg he]
      rw [this]
      simp only [if_neg he]

theorem rtakes_spec {kn K d : Nat} (hk : isKn kn = true) (hK : 1099511627776 < K) (fr : Fr) (H : Heap) (hH : H.Ok) (s : List UInt8) (ex : Bool) (hs : s.length ≤ 1099511627776) (count : Int) (hc : count ≤ 1000) :
    vcallB (vcall kn vtab K (d + 2)) vtab K fr 74 [.list 1 s.length (s.map byteC) ex, .int .i64 count] H =
      some (.tuple [.list 1 (takesR s count.toNat).1.length ((takesR s count.toNat).1.map (.int .i64)) false, .list 1 (takesR s count.toNat).2.1.length ((takesR s count.toNat).2.1.map byteC) false, .int .i64 (takesR s count.toNat).2.2], H) := by
  rw [body_bare rfl rfl]
  have h1 := rtakes_loop (d := d) hk hK H hH s hs count hc
  have e : takesR s count.toNat = (match runL rtakesStep ([], s.drop 0) (List.replicate count.toNat ()) with
    | .inl p => ((p.1, p.2, 0) : List Int × List UInt8 × Int)
    | .inr e => ([], [], e.1)) := (rtakes_eq s count.toNat [] 0).symm
  have hsb : s.length ≤ 70368744177664 := by omega
  rw [e, show s.drop 0 = s from rfl]
  cases hr : runL rtakesStep ([], s) (List.replicate count.toNat ()) with
  | inl p =>
    rw [hr] at h1
    simp only [rtakesFin, accI, blkI, fr1, List.length_nil, List.map_nil] at h1
    simp (maxDischargeDepth := 20) [VF74, vst_some, vgd_true, vgd_false, vgo_nil, vgo_cons, vgo_guard, bwanted_some, vop_p, vop_l, vop_k, vop_n, vnorm_some, vseqc_normal, vseqc_exit, vseqc_ret, vcondc_true, vcondc_false, vexec_dreg, vdgo_nil, vdgo_p, vdgo_l, vdgo_k, vdgo_n, vdgo_gp, vdgo_gl, vdgo_gk, vdgo_gn, vdp_some, vdl_some, vdk_some, vdn_some, vdw_true, vdw_false, room_zero, room_put, get_room, next_room, get_hide, hide_zero, vexec_skip, vexec_exit, vexec_ret, vexec_reg, vexec_seq, vexec_cond, vexec_block, vexec_loop, blockO_exit, blockO_normal, blockO_ret, vfin_some, vend_normal, vend_ret, vbody_eq, outO_normal, outO_exit, outO_ret, vround_eq, vkeep_false, bkeep_cons, bkeep_nil, bput_some, bput_none, look_cons, look_nil, AOp.sub, POp.sub, LOp.sub, KOp.sub, NOp.sub, AX.sub, AX.subO, AX.ev, vP, vL, vK, vN, vElems, vElemSize, aP, aL, aK, aN, cB_add, cB_sub, cB_mul, cB_eql, cB_neq, cB_lss, cB_leq, cB_gtr, cB_geq, cB_xor, cB_and, cB_or, cS_eql, cS_neq, cS_lss, cS_leq, cS_gtr, cS_geq, aLoad, aBytesStr, aElems, aElemSize, Mk.val, next_push, next_put, get_push, get_put, Heap.read, List.replicate, List.replicate_succ, start, vRes, vResL, vResults, List.headD, vfrz_some, vexit_eq, vexit1_frozen, vexit1_gc, vexit2_some, solV, solL, solz_succ, solz_zero, solF_some, sol1, List.tail_cons, List.tail_nil, frzL_nil, frzL_cons', frzM_some, frz_int, frz_bool, frz_str, frz_nilFunc, frz_undef, frz_list, frz_elem, frz_nilptr, frz_nilmap, frz_fn, frz_ptr, frz_nilslice, frz_func, frz_agg, frz_tuple, frz_slice, frz_acc, frzS_eq, frzTidy_nil, ice_nil, next_ice, get_ice, iceB_some, vAppend, fitsB, aFill, aPart, aUn, AV.cells?, AV.isCell, reps, byteC_def, accB, blkB, fr1, List.drop_succ_cons, List.drop_zero, List.drop_nil, vkeep_true, gc, gcIds, reach, grow, idsOfL, idsOf, ddup, gcPush, gcTidy, zipKeep, renL, ren, renId, ixOf, cellsOf, cut_zero, cut_p1, cut_p2, cut_p3, cut_p4, cut_app, cut_app0, cut_app1, cut_push, cut_put_lt, cut_put_ge, cut_ice, new_lt, new_lt2, new_lt3, new_lt4, new_le2, new_le3, new_le4, eqn_a, eqn_b, eqn_c, eqn_d, eqn_e, eqn_f, next_cut, get_cut, put_put, idsOfL_append, renL_append, idsOfL_bytes, idsOfL_strs, idsOfL_ints, renL_bytes, renL_strs, renL_ints, frzL_bytes, frzL_strs, frzL_ints, frzL_drop, frzL_take, idsOfL_drop, idsOfL_take, renL_drop, renL_take, toBytes_map, toBytes_drop, toBytes_take, toBytes_td, idsOf_byteC, ren_byteC, frz_byteC, next_empty, h1, hsb, take_map, ok_push, hH, cut_self _ hH, ice_new hH]
  | inr e =>
    rw [hr] at h1
    simp only [rtakesFin, accI, blkI, fr1, List.length_nil, List.map_nil] at h1
    simp (maxDischargeDepth := 20) [VF74, vst_some, vgd_true, vgd_false, vgo_nil, vgo_cons, vgo_guard, bwanted_some, vop_p, vop_l, vop_k, vop_n, vnorm_some, vseqc_normal, vseqc_exit, vseqc_ret, vcondc_true, vcondc_false, vexec_dreg, vdgo_nil, vdgo_p, vdgo_l, vdgo_k, vdgo_n, vdgo_gp, vdgo_gl, vdgo_gk, vdgo_gn, vdp_some, vdl_some, vdk_some, vdn_some, vdw_true, vdw_false, room_zero, room_put, get_room, next_room, get_hide, hide_zero, vexec_skip, vexec_exit, vexec_ret, vexec_reg, vexec_seq, vexec_cond, vexec_block, vexec_loop, blockO_exit, blockO_normal, blockO_ret, vfin_some, vend_normal, vend_ret, vbody_eq, outO_normal, outO_exit, outO_ret, vround_eq, vkeep_false, bkeep_cons, bkeep_nil, bput_some, bput_none, look_cons, look_nil, AOp.sub, POp.sub, LOp.sub, KOp.sub, NOp.sub, AX.sub, AX.subO, AX.ev, vP, vL, vK, vN, vElems, vElemSize, aP, aL, aK, aN, cB_add, cB_sub, cB_mul, cB_eql, cB_neq, cB_lss, cB_leq, cB_gtr, cB_geq, cB_xor, cB_and, cB_or, cS_eql, cS_neq, cS_lss, cS_leq, cS_gtr, cS_geq, aLoad, aBytesStr, aElems, aElemSize, Mk.val, next_push, next_put, get_push, get_put, Heap.read, List.replicate, List.replicate_succ, start, vRes, vResL, vResults, List.headD, vfrz_some, vexit_eq, vexit1_frozen, vexit1_gc, vexit2_some, solV, solL, solz_succ, solz_zero, solF_some, sol1, List.tail_cons, List.tail_nil, frzL_nil, frzL_cons', frzM_some, frz_int, frz_bool, frz_str, frz_nilFunc, frz_undef, frz_list, frz_elem, frz_nilptr, frz_nilmap, frz_fn, frz_ptr, frz_nilslice, frz_func, frz_agg, frz_tuple, frz_slice, frz_acc, frzS_eq, frzTidy_nil, ice_nil, next_ice, get_ice, iceB_some, vAppend, fitsB, aFill, aPart, aUn, AV.cells?, AV.isCell, reps, byteC_def, accB, blkB, fr1, List.drop_succ_cons, List.drop_zero, List.drop_nil, vkeep_true, gc, gcIds, reach, grow, idsOfL, idsOf, ddup, gcPush, gcTidy, zipKeep, renL, ren, renId, ixOf, cellsOf, cut_zero, cut_p1, cut_p2, cut_p3, cut_p4, cut_app, cut_app0, cut_app1, cut_push, cut_put_lt, cut_put_ge, cut_ice, new_lt, new_lt2, new_lt3, new_lt4, new_le2, new_le3, new_le4, eqn_a, eqn_b, eqn_c, eqn_d, eqn_e, eqn_f, next_cut, get_cut, put_put, idsOfL_append, renL_append, idsOfL_bytes, idsOfL_strs, idsOfL_ints, renL_bytes, renL_strs, renL_ints, frzL_bytes, frzL_strs, frzL_ints, frzL_drop, frzL_take, idsOfL_drop, idsOfL_take, renL_drop, renL_take, toBytes_map, toBytes_drop, toBytes_take, toBytes_td, idsOf_byteC, ren_byteC, frz_byteC, next_empty, h1, hsb, take_map, ok_push, hH, cut_self _ hH, ice_new hH]

/-! ### TakeText -/

theorem takeTextR_eq (s : List UInt8) : takeTextR s = if (takeR s).2.2 = 0 then (if (takeR s).1 > (takeR s).2.1.length then ([], [], 3) else ((takeR s).2.1.take (takeR s).1.toNat, (takeR s).2.1.drop (takeR s).1.toNat, 0)) else ([], [], (takeR s).2.2) := by
  obtain ⟨g1, g2, g3, g4, g5⟩ := takeOf_le s
  by_cases he : (takeOf s).2.2 = 0
  · have h1 : takeR s = ((takeOf s).1, s.drop (takeOf s).2.1.toNat, 0) := by simp only [takeR, if_pos he]
    rw [h1]
    simp only [takeTextR, if_pos he, if_true, List.length_drop, List.drop_drop]
    rw [show ((s.length - (takeOf s).2.1.toNat : Nat) : Int) = (s.length : Int) - (takeOf s).2.1 by omega]
  · have h1 : takeR s = (0, [], (takeOf s).2.2) := by simp only [takeR, if_neg he]
    rw [h1]
    simp only [takeTextR, if_neg he]

theorem rtaketext_spec {kn K d : Nat} (hk : isKn kn = true) (hK : 1099511627776 < K) (fr : Fr) (H : Heap) (hH : H.Ok) (s : List UInt8) (ex : Bool) (hs : s.length ≤ 1099511627776) :
    vcallB (vcall kn vtab K (d + 2)) vtab K fr 75 [.list 1 s.length (s.map byteC) ex] H = some (.tuple [.str (takeTextR s).1, .list 1 (takeTextR s).2.1.length ((takeTextR s).2.1.map byteC) false, .int .i64 (takeTextR s).2.2], H) := by
  rw [body_bare rfl rfl, takeTextR_eq]
  have c1 := fun fr H args => call_of (K := K) (d := d + 1) (fr := fr) (args := args) (H := H) hk (f := 73) rfl rfl
  have h1 := fun fr => rtake_spec (K := K) (d := d) hk hK fr H hH s ex hs
  have hl := takeR_len s
  have hn : 0 ≤ (takeR s).1 := by
    obtain ⟨g1, g2, g3, g4, g5⟩ := takeOf_le s
    simp only [takeR]
    split
    · exact g4
    · simp
  generalize takeR s = t at *
  obtain ⟨n, r, e⟩ := t
  simp only at *
  obtain ⟨m, rfl⟩ : ∃ m : Nat, n = m := ⟨n.toNat, by omega⟩
  by_cases he : e = 0
  · subst he
    by_cases hm : m ≤ r.length
    · have hm1 : ¬ (r.length < m) := by omega
      have hm2 : ¬ ((r.length : Int) < m) := by omega
      have hb : r.length - m ≤ 70368744177664 := by omega
      have hm3 : (m : Int) ≤ r.length := by omega
      simp (maxDischargeDepth := 20) [VF75, vst_some, vgd_true, vgd_false, vgo_nil, vgo_cons, vgo_guard, bwanted_some, vop_p, vop_l, vop_k, vop_n, vnorm_some, vseqc_normal, vseqc_exit, vseqc_ret, vcondc_true, vcondc_false, vexec_dreg, vdgo_nil, vdgo_p, vdgo_l, vdgo_k, vdgo_n, vdgo_gp, vdgo_gl, vdgo_gk, vdgo_gn, vdp_some, vdl_some, vdk_some, vdn_some, vdw_true, vdw_false, room_zero, room_put, get_room, next_room, get_hide, hide_zero, vexec_skip, vexec_exit, vexec_ret, vexec_reg, vexec_seq, vexec_cond, vexec_block, vexec_loop, blockO_exit, blockO_normal, blockO_ret, vfin_some, vend_normal, vend_ret, vbody_eq, outO_normal, outO_exit, outO_ret, vround_eq, vkeep_false, bkeep_cons, bkeep_nil, bput_some, bput_none, look_cons, look_nil, AOp.sub, POp.sub, LOp.sub, KOp.sub, NOp.sub, AX.sub, AX.subO, AX.ev, vP, vL, vK, vN, vElems, vElemSize, aP, aL, aK, aN, cB_add, cB_sub, cB_mul, cB_eql, cB_neq, cB_lss, cB_leq, cB_gtr, cB_geq, cB_xor, cB_and, cB_or, cS_eql, cS_neq, cS_lss, cS_leq, cS_gtr, cS_geq, aLoad, aBytesStr, aElems, aElemSize, Mk.val, next_push, next_put, get_push, get_put, Heap.read, List.replicate, List.replicate_succ, start, vRes, vResL, vResults, List.headD, vfrz_some, vexit_eq, vexit1_frozen, vexit1_gc, vexit2_some, solV, solL, solz_succ, solz_zero, solF_some, sol1, List.tail_cons, List.tail_nil, frzL_nil, frzL_cons', frzM_some, frz_int, frz_bool, frz_str, frz_nilFunc, frz_undef, frz_list, frz_elem, frz_nilptr, frz_nilmap, frz_fn, frz_ptr, frz_nilslice, frz_func, frz_agg, frz_tuple, frz_slice, frz_acc, frzS_eq, frzTidy_nil, ice_nil, next_ice, get_ice, iceB_some, vAppend, fitsB, aFill, aPart, aUn, AV.cells?, AV.isCell, reps, byteC_def, accB, blkB, fr1, List.drop_succ_cons, List.drop_zero, List.drop_nil, vkeep_true, gc, gcIds, reach, grow, idsOfL, idsOf, ddup, gcPush, gcTidy, zipKeep, renL, ren, renId, ixOf, cellsOf, cut_zero, cut_p1, cut_p2, cut_p3, cut_p4, cut_app, cut_app0, cut_app1, cut_push, cut_put_lt, cut_put_ge, cut_ice, new_lt, new_lt2, new_lt3, new_lt4, new_le2, new_le3, new_le4, eqn_a, eqn_b, eqn_c, eqn_d, eqn_e, eqn_f, next_cut, get_cut, put_put, idsOfL_append, renL_append, idsOfL_bytes, idsOfL_strs, idsOfL_ints, renL_bytes, renL_strs, renL_ints, frzL_bytes, frzL_strs, frzL_ints, frzL_drop, frzL_take, idsOfL_drop, idsOfL_take, renL_drop, renL_take, toBytes_map, toBytes_drop, toBytes_take, toBytes_td, idsOf_byteC, ren_byteC, frz_byteC, next_empty, vSlice, vSliceA, aSlice, aBoundO, aBound, aShift, aSliceStr, loadOk, ofList, isList, bornL, bornX, bornXO, bornOf, bornPut_some, bornPut_none, bornP, known, knownL, AV.same, List.all_cons, List.all_nil, List.drop_zero, List.isEmpty_cons, List.isEmpty_nil, thawed, c1, h1, hm, hm1, hm2, hm3, hb, take_full, ok_push, hH, cut_self _ hH, ice_new hH]
    · have hm1 : r.length < m := by omega
      have hm2 : (r.length : Int) < m := by omega
      simp (maxDischargeDepth := 20) [VF75, vst_some, vgd_true, vgd_false, vgo_nil, vgo_cons, vgo_guard, bwanted_some, vop_p, vop_l, vop_k, vop_n, vnorm_some, vseqc_normal, vseqc_exit, vseqc_ret, vcondc_true, vcondc_false, vexec_dreg, vdgo_nil, vdgo_p, vdgo_l, vdgo_k, vdgo_n, vdgo_gp, vdgo_gl, vdgo_gk, vdgo_gn, vdp_some, vdl_some, vdk_some, vdn_some, vdw_true, vdw_false, room_zero, room_put, get_room, next_room, get_hide, hide_zero, vexec_skip, vexec_exit, vexec_ret, vexec_reg, vexec_seq, vexec_cond, vexec_block, vexec_loop, blockO_exit, blockO_normal, blockO_ret, vfin_some, vend_normal, vend_ret, vbody_eq, outO_normal, outO_exit, outO_ret, vround_eq, vkeep_false, bkeep_cons, bkeep_nil, bput_some, bput_none, look_cons, look_nil, AOp.sub, POp.sub, LOp.sub, KOp.sub, NOp.sub, AX.sub, AX.subO, AX.ev, vP, vL, vK, vN, vElems, vElemSize, aP, aL, aK, aN, cB_add, cB_sub, cB_mul, cB_eql, cB_neq, cB_lss, cB_leq, cB_gtr, cB_geq, cB_xor, cB_and, cB_or, cS_eql, cS_neq, cS_lss, cS_leq, cS_gtr, cS_geq, aLoad, aBytesStr, aElems, aElemSize, Mk.val, next_push, next_put, get_push, get_put, Heap.read, List.replicate, List.replicate_succ, start, vRes, vResL, vResults, List.headD, vfrz_some, vexit_eq, vexit1_frozen, vexit1_gc, vexit2_some, solV, solL, solz_succ, solz_zero, solF_some, sol1, List.tail_cons, List.tail_nil, frzL_nil, frzL_cons', frzM_some, frz_int, frz_bool, frz_str, frz_nilFunc, frz_undef, frz_list, frz_elem, frz_nilptr, frz_nilmap, frz_fn, frz_ptr, frz_nilslice, frz_func, frz_agg, frz_tuple, frz_slice, frz_acc, frzS_eq, frzTidy_nil, ice_nil, next_ice, get_ice, iceB_some, vAppend, fitsB, aFill, aPart, aUn, AV.cells?, AV.isCell, reps, byteC_def, accB, blkB, fr1, List.drop_succ_cons, List.drop_zero, List.drop_nil, vkeep_true, gc, gcIds, reach, grow, idsOfL, idsOf, ddup, gcPush, gcTidy, zipKeep, renL, ren, renId, ixOf, cellsOf, cut_zero, cut_p1, cut_p2, cut_p3, cut_p4, cut_app, cut_app0, cut_app1, cut_push, cut_put_lt, cut_put_ge, cut_ice, new_lt, new_lt2, new_lt3, new_lt4, new_le2, new_le3, new_le4, eqn_a, eqn_b, eqn_c, eqn_d, eqn_e, eqn_f, next_cut, get_cut, put_put, idsOfL_append, renL_append, idsOfL_bytes, idsOfL_strs, idsOfL_ints, renL_bytes, renL_strs, renL_ints, frzL_bytes, frzL_strs, frzL_ints, frzL_drop, frzL_take, idsOfL_drop, idsOfL_take, renL_drop, renL_take, toBytes_map, toBytes_drop, toBytes_take, toBytes_td, idsOf_byteC, ren_byteC, frz_byteC, next_empty, vSlice, vSliceA, aSlice, aBoundO, aBound, aShift, aSliceStr, loadOk, ofList, isList, bornL, bornX, bornXO, bornOf, bornPut_some, bornPut_none, bornP, known, knownL, AV.same, List.all_cons, List.all_nil, List.drop_zero, List.isEmpty_cons, List.isEmpty_nil, thawed, c1, h1, hm, hm1, hm2, ok_push, hH, cut_self _ hH, ice_new hH]
  · simp (maxDischargeDepth := 20) [VF75, vst_some, vgd_true, vgd_false, vgo_nil, vgo_cons, vgo_guard, bwanted_some, vop_p, vop_l, vop_k, vop_n, vnorm_some, vseqc_normal, vseqc_exit, vseqc_ret, vcondc_true, vcondc_false, vexec_dreg, vdgo_nil, vdgo_p, vdgo_l, vdgo_k, vdgo_n, vdgo_gp, vdgo_gl, vdgo_gk, vdgo_gn, vdp_some, vdl_some, vdk_some, vdn_some, vdw_true, vdw_false, room_zero, room_put, get_room, next_room, get_hide, hide_zero, vexec_skip, vexec_exit, vexec_ret, vexec_reg, vexec_seq, vexec_cond, vexec_block, vexec_loop, blockO_exit, blockO_normal, blockO_ret, vfin_some, vend_normal, vend_ret, vbody_eq, outO_normal, outO_exit, outO_ret, vround_eq, vkeep_false, bkeep_cons, bkeep_nil, bput_some, bput_none, look_cons, look_nil, AOp.sub, POp.sub, LOp.sub, KOp.sub, NOp.sub, AX.sub, AX.subO, AX.ev, vP, vL, vK, vN, vElems, vElemSize, aP, aL, aK, aN, cB_add, cB_sub, cB_mul, cB_eql, cB_neq, cB_lss, cB_leq, cB_gtr, cB_geq, cB_xor, cB_and, cB_or, cS_eql, cS_neq, cS_lss, cS_leq, cS_gtr, cS_geq, aLoad, aBytesStr, aElems, aElemSize, Mk.val, next_push, next_put, get_push, get_put, Heap.read, List.replicate, List.replicate_succ, start, vRes, vResL, vResults, List.headD, vfrz_some, vexit_eq, vexit1_frozen, vexit1_gc, vexit2_some, solV, solL, solz_succ, solz_zero, solF_some, sol1, List.tail_cons, List.tail_nil, frzL_nil, frzL_cons', frzM_some, frz_int, frz_bool, frz_str, frz_nilFunc, frz_undef, frz_list, frz_elem, frz_nilptr, frz_nilmap, frz_fn, frz_ptr, frz_nilslice, frz_func, frz_agg, frz_tuple, frz_slice, frz_acc, frzS_eq, frzTidy_nil, ice_nil, next_ice, get_ice, iceB_some, vAppend, fitsB, aFill, aPart, aUn, AV.cells?, AV.isCell, reps, byteC_def, accB, blkB, fr1, List.drop_succ_cons, List.drop_zero, List.drop_nil, vkeep_true, gc, gcIds, reach, grow, idsOfL, idsOf, ddup, gcPush, gcTidy, zipKeep, renL, ren, renId, ixOf, cellsOf, cut_zero, cut_p1, cut_p2, cut_p3, cut_p4, cut_app, cut_app0, cut_app1, cut_push, cut_put_lt, cut_put_ge, cut_ice, new_lt, new_lt2, new_lt3, new_lt4, new_le2, new_le3, new_le4, eqn_a, eqn_b, eqn_c, eqn_d, eqn_e, eqn_f, next_cut, get_cut, put_put, idsOfL_append, renL_append, idsOfL_bytes, idsOfL_strs, idsOfL_ints, renL_bytes, renL_strs, renL_ints, frzL_bytes, frzL_strs, frzL_ints, frzL_drop, frzL_take, idsOfL_drop, idsOfL_take, renL_drop, renL_take, toBytes_map, toBytes_drop, toBytes_take, toBytes_td, idsOf_byteC, ren_byteC, frz_byteC, next_empty, vSlice, vSliceA, aSlice, aBoundO, aBound, aShift, aSliceStr, loadOk, ofList, isList, bornL, bornX, bornXO, bornOf, bornPut_some, bornPut_none, bornP, known, knownL, AV.same, List.all_cons, List.all_nil, List.drop_zero, List.isEmpty_cons, List.isEmpty_nil, thawed, c1, h1, he, ok_push, hH, cut_self _ hH, ice_new hH]

end Go.Proofs.Yteibgagdnidojaa
