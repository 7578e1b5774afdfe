/- nums.Takes, and the document's numbers: what they come to. -/
import Derived.Test.YtecjbeljchbihaaQTake
set_option linter.all false
set_option linter.unusedSimpArgs false
namespace Go.Proofs.Ytecjbeljchbihaa

def takesStep (s : List UInt8) (p : List Int × Nat) (_ : Unit) : (List Int × Nat) ⊕ (Int × Nat) :=
  if (takeOf (s.drop p.2)).2.2 = 0 then .inl (p.1 ++ [(takeOf (s.drop p.2)).1], p.2 + (takeOf (s.drop p.2)).2.1.toNat) else .inr ((takeOf (s.drop p.2)).2.2, p.2)
def takesFin (H : Heap) (s : List UInt8) (ex : Bool) : (List Int × Nat) ⊕ (Int × Nat) → Ex × Fast × Heap
  | .inl p => (.exit 0, [(0, .list 1 s.length (s.map byteC) ex), (4, accI H p.1), (5, .undef), (6, .undef), (7, .int .i64 p.2)], blkI H p.1)
  | .inr e => (.ret, [(0, .list 1 s.length (s.map byteC) ex), (4, accI H []), (5, .acc (H.next + 1) 0 1 0 true), (6, .int .i64 e.1), (7, .int .i64 e.2)], (blkI H []).push (.cells [] false true))

theorem takes_round {kn K d : Nat} (hk : isKn kn = true) (hK : 1099511627776 < K) (H : Heap) (hH : H.Ok) (s : List UInt8) (ex : Bool) (hs : s.length ≤ 1099511627776) (n i : Nat) (hi : i < n) (hn : n ≤ 1000) (l : List Int) (at_ : Nat) (ha : at_ ≤ s.length) (hl : l.length ≤ 1000)
    (h0 : (takeOf (s.drop at_)).2.2 = 0) :
    VR7_0 (vcall kn vtab K (d + 3)) K (fr1 H) ([(0, .list 1 s.length (s.map byteC) ex), (4, accI H l), (7, .int .i64 at_), (12, .int .i64 n), (13, .int .i64 i)], blkI H l) =
      some (.inl ([(0, .list 1 s.length (s.map byteC) ex), (4, accI H (l ++ [(takeOf (s.drop at_)).1])), (7, .int .i64 (at_ + (takeOf (s.drop at_)).2.1.toNat : Nat)), (12, .int .i64 n), (13, .int .i64 (i + 1 : Nat))], blkI H (l ++ [(takeOf (s.drop at_)).1]))) := by
  have c1 := fun fr H args => call_of (K := K) (d := d + 2) (fr := fr) (args := args) (H := H) hk (f := 15) rfl rfl
  have h1 := fun fr ex H hH => take_spec (K := K) (d := d) hk hK fr H hH (s.drop at_) ex (by simp; omega)
  obtain ⟨g1, g2, g3, g4, g5⟩ := takeOf_le (s.drop at_)
  simp only [List.length_drop, List.map_drop] at h1 g2
  generalize takeOf (s.drop at_) = t at *
  obtain ⟨x, size, e⟩ := t
  simp only at *
  subst h0
  obtain ⟨k, rfl⟩ : ∃ k : Nat, size = k := ⟨size.toNat, by omega⟩
  have hwr : IntKind.i64.wrap ((i : Int) + 1) = (i : Int) + 1 := by rw [wrap_i64] <;> omega
  have w2 : IntKind.i64.wrap ((at_ : Int) + k) = (at_ : Int) + k := by rw [wrap_i64] <;> omega
  have hin : (i : Int) < n := by omega
  have w3 : (l.length + 1) * 8 ≤ 70368744177664 ∧ l.length + 1 ≤ 70368744177664 := by omega
  simp (maxDischargeDepth := 20) [VB7_0, vst_some, vgd_true, vgd_false, vgo_nil, vgo_cons, vgo_guard, bwanted_some, vop_p, vop_l, vop_k, vop_n, vnorm_some, vseqc_normal, vseqc_exit, vseqc_ret, vcondc_true, vcondc_false, vexec_dreg, vdgo_nil, vdgo_p, vdgo_l, vdgo_k, vdgo_n, vdgo_gp, vdgo_gl, vdgo_gk, vdgo_gn, vdp_some, vdl_some, vdk_some, vdn_some, vdw_true, vdw_false, room_zero, room_put, get_room, next_room, get_hide, hide_zero, vexec_skip, vexec_exit, vexec_ret, vexec_reg, vexec_seq, vexec_cond, vexec_block, vexec_loop, blockO_exit, blockO_normal, blockO_ret, vfin_some, vend_normal, vend_ret, vbody_eq, outO_normal, outO_exit, outO_ret, vround_eq, vkeep_false, bkeep_cons, bkeep_nil, bput_some, bput_none, look_cons, look_nil, AOp.sub, POp.sub, LOp.sub, KOp.sub, NOp.sub, AX.sub, AX.subO, AX.ev, vP, vL, vK, vN, vElems, vElemSize, aP, aL, aK, aN, cB_add, cB_sub, cB_mul, cB_eql, cB_neq, cB_lss, cB_leq, cB_gtr, cB_geq, cB_xor, cB_and, cB_or, cS_eql, cS_neq, cS_lss, cS_leq, cS_gtr, cS_geq, aLoad, aBytesStr, aElems, aElemSize, Mk.val, next_push, next_put, get_push, get_put, Heap.read, List.replicate, List.replicate_succ, start, vRes, vResL, vResults, List.headD, vfrz_some, vexit_eq, vexit1_frozen, vexit1_gc, vexit2_some, solV, solL, solz_succ, solz_zero, solF_some, sol1, List.tail_cons, List.tail_nil, frzL_nil, frzL_cons', frzM_some, frz_int, frz_bool, frz_str, frz_nilFunc, frz_undef, frz_list, frz_elem, frz_nilptr, frz_nilmap, frz_fn, frz_ptr, frz_nilslice, frz_func, frz_agg, frz_tuple, frz_slice, frz_acc, frzS_eq, frzTidy_nil, ice_nil, next_ice, get_ice, iceB_some, vAppend, fitsB, aFill, aPart, aUn, AV.cells?, AV.isCell, reps, byteC_def, accB, blkB, fr1, List.drop_succ_cons, List.drop_zero, List.drop_nil, vkeep_true, gc, gcIds, reach, grow, idsOfL, idsOf, ddup, gcPush, gcTidy, zipKeep, renL, ren, renId, ixOf, cellsOf, cut_zero, cut_p1, cut_p2, cut_p3, cut_p4, cut_app, cut_app0, cut_app1, cut_push, cut_put_lt, cut_put_ge, cut_ice, new_lt, new_lt2, new_lt3, new_lt4, new_le2, new_le3, new_le4, eqn_a, eqn_b, eqn_c, eqn_d, eqn_e, eqn_f, next_cut, get_cut, put_put, idsOfL_append, renL_append, idsOfL_bytes, idsOfL_strs, idsOfL_ints, renL_bytes, renL_strs, renL_ints, frzL_bytes, frzL_strs, frzL_ints, frzL_drop, frzL_take, idsOfL_drop, idsOfL_take, renL_drop, renL_take, toBytes_map, toBytes_drop, toBytes_take, toBytes_td, idsOf_byteC, ren_byteC, frz_byteC, next_empty, vSlice, vSliceA, aSlice, aBoundO, aBound, aShift, aSliceStr, accI, blkI, c1, h1, hin, hwr, w2, w3, ha, take_full, ok_push, hH, cut_self _ hH, ice_new hH]

theorem takes_bad {kn K d : Nat} (hk : isKn kn = true) (hK : 1099511627776 < K) (H : Heap) (hH : H.Ok) (s : List UInt8) (ex : Bool) (hs : s.length ≤ 1099511627776) (n i : Nat) (hi : i < n) (l : List Int) (at_ : Nat) (ha : at_ ≤ s.length)
    (h0 : (takeOf (s.drop at_)).2.2 ≠ 0) :
    VR7_0 (vcall kn vtab K (d + 3)) K (fr1 H) ([(0, .list 1 s.length (s.map byteC) ex), (4, accI H l), (7, .int .i64 at_), (12, .int .i64 n), (13, .int .i64 i)], blkI H l) = some (.inr (takesFin H s ex (.inr ((takeOf (s.drop at_)).2.2, at_)))) := by
  have c1 := fun fr H args => call_of (K := K) (d := d + 2) (fr := fr) (args := args) (H := H) hk (f := 15) rfl rfl
  have h1 := fun fr ex H hH => take_spec (K := K) (d := d) hk hK fr H hH (s.drop at_) ex (by simp; omega)
  simp only [List.length_drop, List.map_drop] at h1
  generalize takeOf (s.drop at_) = t at *
  obtain ⟨x, size, e⟩ := t
  simp only at *
  have hin : (i : Int) < n := by omega
  simp (maxDischargeDepth := 20) [VB7_0, vst_some, vgd_true, vgd_false, vgo_nil, vgo_cons, vgo_guard, bwanted_some, vop_p, vop_l, vop_k, vop_n, vnorm_some, vseqc_normal, vseqc_exit, vseqc_ret, vcondc_true, vcondc_false, vexec_dreg, vdgo_nil, vdgo_p, vdgo_l, vdgo_k, vdgo_n, vdgo_gp, vdgo_gl, vdgo_gk, vdgo_gn, vdp_some, vdl_some, vdk_some, vdn_some, vdw_true, vdw_false, room_zero, room_put, get_room, next_room, get_hide, hide_zero, vexec_skip, vexec_exit, vexec_ret, vexec_reg, vexec_seq, vexec_cond, vexec_block, vexec_loop, blockO_exit, blockO_normal, blockO_ret, vfin_some, vend_normal, vend_ret, vbody_eq, outO_normal, outO_exit, outO_ret, vround_eq, vkeep_false, bkeep_cons, bkeep_nil, bput_some, bput_none, look_cons, look_nil, AOp.sub, POp.sub, LOp.sub, KOp.sub, NOp.sub, AX.sub, AX.subO, AX.ev, vP, vL, vK, vN, vElems, vElemSize, aP, aL, aK, aN, cB_add, cB_sub, cB_mul, cB_eql, cB_neq, cB_lss, cB_leq, cB_gtr, cB_geq, cB_xor, cB_and, cB_or, cS_eql, cS_neq, cS_lss, cS_leq, cS_gtr, cS_geq, aLoad, aBytesStr, aElems, aElemSize, Mk.val, next_push, next_put, get_push, get_put, Heap.read, List.replicate, List.replicate_succ, start, vRes, vResL, vResults, List.headD, vfrz_some, vexit_eq, vexit1_frozen, vexit1_gc, vexit2_some, solV, solL, solz_succ, solz_zero, solF_some, sol1, List.tail_cons, List.tail_nil, frzL_nil, frzL_cons', frzM_some, frz_int, frz_bool, frz_str, frz_nilFunc, frz_undef, frz_list, frz_elem, frz_nilptr, frz_nilmap, frz_fn, frz_ptr, frz_nilslice, frz_func, frz_agg, frz_tuple, frz_slice, frz_acc, frzS_eq, frzTidy_nil, ice_nil, next_ice, get_ice, iceB_some, vAppend, fitsB, aFill, aPart, aUn, AV.cells?, AV.isCell, reps, byteC_def, accB, blkB, fr1, List.drop_succ_cons, List.drop_zero, List.drop_nil, vkeep_true, gc, gcIds, reach, grow, idsOfL, idsOf, ddup, gcPush, gcTidy, zipKeep, renL, ren, renId, ixOf, cellsOf, cut_zero, cut_p1, cut_p2, cut_p3, cut_p4, cut_app, cut_app0, cut_app1, cut_push, cut_put_lt, cut_put_ge, cut_ice, new_lt, new_lt2, new_lt3, new_lt4, new_le2, new_le3, new_le4, eqn_a, eqn_b, eqn_c, eqn_d, eqn_e, eqn_f, next_cut, get_cut, put_put, idsOfL_append, renL_append, idsOfL_bytes, idsOfL_strs, idsOfL_ints, renL_bytes, renL_strs, renL_ints, frzL_bytes, frzL_strs, frzL_ints, frzL_drop, frzL_take, idsOfL_drop, idsOfL_take, renL_drop, renL_take, toBytes_map, toBytes_drop, toBytes_take, toBytes_td, idsOf_byteC, ren_byteC, frz_byteC, next_empty, vSlice, vSliceA, aSlice, aBoundO, aBound, aShift, aSliceStr, accI, blkI, takesFin, c1, h1, hin, h0, ha, take_full, ok_push, hH, cut_self _ hH, ice_new hH]

theorem takes_end (C : VCalls) (K : Nat) (H : Heap) (hH : H.Ok) (s : List UInt8) (ex : Bool) (n : Nat) (l : List Int) (at_ : Nat) :
    VR7_0 C K (fr1 H) ([(0, .list 1 s.length (s.map byteC) ex), (4, accI H l), (7, .int .i64 at_), (12, .int .i64 n), (13, .int .i64 n)], blkI H l) = some (.inr (takesFin H s ex (.inl (l, at_)))) := by
  simp (maxDischargeDepth := 20) [VB7_0, vst_some, vgd_true, vgd_false, vgo_nil, vgo_cons, vgo_guard, bwanted_some, vop_p, vop_l, vop_k, vop_n, vnorm_some, vseqc_normal, vseqc_exit, vseqc_ret, vcondc_true, vcondc_false, vexec_dreg, vdgo_nil, vdgo_p, vdgo_l, vdgo_k, vdgo_n, vdgo_gp, vdgo_gl, vdgo_gk, vdgo_gn, vdp_some, vdl_some, vdk_some, vdn_some, vdw_true, vdw_false, room_zero, room_put, get_room, next_room, get_hide, hide_zero, vexec_skip, vexec_exit, vexec_ret, vexec_reg, vexec_seq, vexec_cond, vexec_block, vexec_loop, blockO_exit, blockO_normal, blockO_ret, vfin_some, vend_normal, vend_ret, vbody_eq, outO_normal, outO_exit, outO_ret, vround_eq, vkeep_false, bkeep_cons, bkeep_nil, bput_some, bput_none, look_cons, look_nil, AOp.sub, POp.sub, LOp.sub, KOp.sub, NOp.sub, AX.sub, AX.subO, AX.ev, vP, vL, vK, vN, vElems, vElemSize, aP, aL, aK, aN, cB_add, cB_sub, cB_mul, cB_eql, cB_neq, cB_lss, cB_leq, cB_gtr, cB_geq, cB_xor, cB_and, cB_or, cS_eql, cS_neq, cS_lss, cS_leq, cS_gtr, cS_geq, aLoad, aBytesStr, aElems, aElemSize, Mk.val, next_push, next_put, get_push, get_put, Heap.read, List.replicate, List.replicate_succ, start, vRes, vResL, vResults, List.headD, vfrz_some, vexit_eq, vexit1_frozen, vexit1_gc, vexit2_some, solV, solL, solz_succ, solz_zero, solF_some, sol1, List.tail_cons, List.tail_nil, frzL_nil, frzL_cons', frzM_some, frz_int, frz_bool, frz_str, frz_nilFunc, frz_undef, frz_list, frz_elem, frz_nilptr, frz_nilmap, frz_fn, frz_ptr, frz_nilslice, frz_func, frz_agg, frz_tuple, frz_slice, frz_acc, frzS_eq, frzTidy_nil, ice_nil, next_ice, get_ice, iceB_some, vAppend, fitsB, aFill, aPart, aUn, AV.cells?, AV.isCell, reps, byteC_def, accB, blkB, fr1, List.drop_succ_cons, List.drop_zero, List.drop_nil, vkeep_true, gc, gcIds, reach, grow, idsOfL, idsOf, ddup, gcPush, gcTidy, zipKeep, renL, ren, renId, ixOf, cellsOf, cut_zero, cut_p1, cut_p2, cut_p3, cut_p4, cut_app, cut_app0, cut_app1, cut_push, cut_put_lt, cut_put_ge, cut_ice, new_lt, new_lt2, new_lt3, new_lt4, new_le2, new_le3, new_le4, eqn_a, eqn_b, eqn_c, eqn_d, eqn_e, eqn_f, next_cut, get_cut, put_put, idsOfL_append, renL_append, idsOfL_bytes, idsOfL_strs, idsOfL_ints, renL_bytes, renL_strs, renL_ints, frzL_bytes, frzL_strs, frzL_ints, frzL_drop, frzL_take, idsOfL_drop, idsOfL_take, renL_drop, renL_take, toBytes_map, toBytes_drop, toBytes_take, toBytes_td, idsOf_byteC, ren_byteC, frz_byteC, next_empty, accI, blkI, takesFin, cut_self _ hH, ice_new hH]

/-- What Takes tells. -/
def takesR (s : List UInt8) (n : Nat) : List Int × List UInt8 × Int := match runL (takesStep s) ([], 0) (List.replicate n ()) with
  | .inl p => (p.1, s.drop p.2, 0)
  | .inr e => ([], [], e.1)

theorem runL_inv {α σ ρ : Type} {step : σ → α → σ ⊕ ρ} (P : σ → Prop) (h : ∀ s x s', P s → step s x = .inl s' → P s') : ∀ (l : List α) (s s' : σ), P s → runL step s l = .inl s' → P s'
  | [], s, s', hs, e => by simp only [runL, Sum.inl.injEq] at e; exact e ▸ hs
  | x :: l, s, s', hs, e => by
    simp only [runL] at e
    cases hx : step s x with
    | inl t => rw [hx] at e; exact runL_inv P h l t s' (h s x t hs hx) e
    | inr t => rw [hx] at e; cases e

theorem takes_loop {kn K d : Nat} (hk : isKn kn = true) (hK : 1099511627776 < K) (H : Heap) (hH : H.Ok) (s : List UInt8) (ex : Bool) (hs : s.length ≤ 1099511627776) (n : Nat) (hn : n ≤ 1000) :
    VU7_0 (vcall kn vtab K (d + 3)) K (fr1 H) K ([(0, .list 1 s.length (s.map byteC) ex), (4, accI H []), (7, .int .i64 0), (12, .int .i64 n), (13, .int .i64 0)], blkI H []) = some (takesFin H s ex (runL (takesStep s) ([], 0) (List.replicate n ()))) :=
  vrun_listE (L := List.replicate n ()) (st := fun p i => ([(0, .list 1 s.length (s.map byteC) ex), (4, accI H p.1), (7, .int .i64 p.2), (12, .int .i64 n), (13, .int .i64 i)], blkI H p.1)) (fin := takesFin H s ex) (step := takesStep s) (fun p i => p.2 ≤ s.length ∧ p.1.length = i)
    (fun p i p' hi hp he => by
      obtain ⟨g1, g2, _⟩ := takeOf_le (s.drop p.2)
      simp only [List.length_drop] at g2
      simp only [takesStep] at he
      split at he
      case isFalse => cases he
      rename_i h0
      obtain rfl := Sum.inl.inj he
      refine ⟨⟨by simp only; omega, by simp [hp.2]⟩, ?_⟩
      have hi' : i < n := by simpa using hi
      exact takes_round hk hK H hH s ex hs n i hi' hn p.1 p.2 hp.1 (by omega) h0)
    (fun p i e hi hp he => by
      simp only [takesStep] at he
      split at he
      · cases he
      rename_i h0
      obtain rfl := Sum.inr.inj he
      exact takes_bad hk hK H hH s ex hs n i (by simpa using hi) p.1 p.2 hp.1 h0)
    (fun p hp => by
      have := takes_end (vcall kn vtab K (d + 3)) K H hH s ex n p.1 p.2
      simpa using this) (List.replicate n ()) 0 K ([], 0) rfl (Nat.zero_le _) ⟨Nat.zero_le _, rfl⟩ (by simp; omega)

theorem clipI_at {kn K d : Nat} (hk : isKn kn = true) (fr : Fr) (H : Heap) (b n : Nat) :
    vcall kn vtab K (d + 1) fr 16 [.acc b 0 1 n true] H = some (.acc b 0 1 n true, H) := by
  rw [sum_of hk rfl rfl (g := clipSem 1) rfl]
  simp [clipSem]

theorem Takes_spec {kn K d : Nat} (hk : isKn kn = true) (hK : 1099511627776 < K) (fr : Fr) (H : Heap) (hH : H.Ok) (s : List UInt8) (ex : Bool) (hs : s.length ≤ 1099511627776) (count : Int) (hc : count ≤ 1000) :
    vcallB (vcall kn vtab K (d + 3)) vtab K fr 7 [.list 1 s.length (s.map byteC) ex, .int .i64 count] H =
      some (.tuple [.list 1 (takesR s count.toNat).1.length ((takesR s count.toNat).1.map (.int .i64)) false, .list 1 (takesR s count.toNat).2.1.length ((takesR s count.toNat).2.1.map byteC) false, .int .i64 (takesR s count.toNat).2.2], H) := by
  rw [body_bare rfl rfl]
  have h1 := takes_loop (d := d) hk hK H hH s ex hs count.toNat (by omega)
  have hm : (if (0 : Int) < count then count else 0) = (count.toNat : Nat) := by split <;> omega
  have hmx : aMinMax true (.int .i64 0) (.int .i64 count) = some (.int .i64 (count.toNat : Nat)) := by
    simp only [aMinMax, if_true]
    rw [← hm]
  clear hm
  generalize count.toNat = n at *
  have c2 := fun fr H args => call_of (K := K) (d := d + 2) (fr := fr) (args := args) (H := H) hk (f := 17) rfl rfl
  have h3 := fun fr H b n => clipI_at (K := K) (d := d + 2) hk fr H b n
  have inv := runL_inv (step := takesStep s) (fun p => p.2 ≤ s.length) (fun p x p' hp he => by
    obtain ⟨g1, g2, _⟩ := takeOf_le (s.drop p.2)
    simp only [List.length_drop] at g2
    simp only [takesStep] at he
    split at he
    case isFalse => cases he
    obtain rfl := Sum.inl.inj he
    simp only
    omega) (List.replicate n ()) ([], 0)
  simp only [takesR]
  cases hr : runL (takesStep s) ([], 0) (List.replicate n ()) with
  | inl p =>
    have hp := inv p (Nat.zero_le _) hr
    rw [hr] at h1
    obtain ⟨l, at_⟩ := p
    simp only [takesFin, accI, blkI, fr1, List.length_nil, List.map_nil] at h1 hp
    have h2 := fun fr H hH ex => own_spec (K := K) (d := d + 1) hk fr H hH (s.drop at_) ex (by simp; omega)
    simp only [accB, blkB, List.length_drop, List.map_drop] at h2
    simp (maxDischargeDepth := 20) [VF7, vst_some, vgd_true, vgd_false, vgo_nil, vgo_cons, vgo_guard, bwanted_some, vop_p, vop_l, vop_k, vop_n, vnorm_some, vseqc_normal, vseqc_exit, vseqc_ret, vcondc_true, vcondc_false, vexec_dreg, vdgo_nil, vdgo_p, vdgo_l, vdgo_k, vdgo_n, vdgo_gp, vdgo_gl, vdgo_gk, vdgo_gn, vdp_some, vdl_some, vdk_some, vdn_some, vdw_true, vdw_false, room_zero, room_put, get_room, next_room, get_hide, hide_zero, vexec_skip, vexec_exit, vexec_ret, vexec_reg, vexec_seq, vexec_cond, vexec_block, vexec_loop, blockO_exit, blockO_normal, blockO_ret, vfin_some, vend_normal, vend_ret, vbody_eq, outO_normal, outO_exit, outO_ret, vround_eq, vkeep_false, bkeep_cons, bkeep_nil, bput_some, bput_none, look_cons, look_nil, AOp.sub, POp.sub, LOp.sub, KOp.sub, NOp.sub, AX.sub, AX.subO, AX.ev, vP, vL, vK, vN, vElems, vElemSize, aP, aL, aK, aN, cB_add, cB_sub, cB_mul, cB_eql, cB_neq, cB_lss, cB_leq, cB_gtr, cB_geq, cB_xor, cB_and, cB_or, cS_eql, cS_neq, cS_lss, cS_leq, cS_gtr, cS_geq, aLoad, aBytesStr, aElems, aElemSize, Mk.val, next_push, next_put, get_push, get_put, Heap.read, List.replicate, List.replicate_succ, start, vRes, vResL, vResults, List.headD, vfrz_some, vexit_eq, vexit1_frozen, vexit1_gc, vexit2_some, solV, solL, solz_succ, solz_zero, solF_some, sol1, List.tail_cons, List.tail_nil, frzL_nil, frzL_cons', frzM_some, frz_int, frz_bool, frz_str, frz_nilFunc, frz_undef, frz_list, frz_elem, frz_nilptr, frz_nilmap, frz_fn, frz_ptr, frz_nilslice, frz_func, frz_agg, frz_tuple, frz_slice, frz_acc, frzS_eq, frzTidy_nil, ice_nil, next_ice, get_ice, iceB_some, vAppend, fitsB, aFill, aPart, aUn, AV.cells?, AV.isCell, reps, byteC_def, accB, blkB, fr1, List.drop_succ_cons, List.drop_zero, List.drop_nil, vkeep_true, gc, gcIds, reach, grow, idsOfL, idsOf, ddup, gcPush, gcTidy, zipKeep, renL, ren, renId, ixOf, cellsOf, cut_zero, cut_p1, cut_p2, cut_p3, cut_p4, cut_app, cut_app0, cut_app1, cut_push, cut_put_lt, cut_put_ge, cut_ice, new_lt, new_lt2, new_lt3, new_lt4, new_le2, new_le3, new_le4, eqn_a, eqn_b, eqn_c, eqn_d, eqn_e, eqn_f, next_cut, get_cut, put_put, idsOfL_append, renL_append, idsOfL_bytes, idsOfL_strs, idsOfL_ints, renL_bytes, renL_strs, renL_ints, frzL_bytes, frzL_strs, frzL_ints, frzL_drop, frzL_take, idsOfL_drop, idsOfL_take, renL_drop, renL_take, toBytes_map, toBytes_drop, toBytes_take, toBytes_td, idsOf_byteC, ren_byteC, frz_byteC, next_empty, vSlice, vSliceA, aSlice, aBoundO, aBound, aShift, aSliceStr, loadOk, ofList, isList, bornL, bornX, bornXO, bornOf, bornPut_some, bornPut_none, bornP, known, knownL, AV.same, List.all_cons, List.all_nil, List.drop_zero, List.isEmpty_cons, List.isEmpty_nil, thawed, aFold, hmx, h1, c2, h2, h3, hp, take_full, ok_push, hH, cut_self _ hH, ice_new hH]
  | inr e =>
    rw [hr] at h1
    simp only [takesFin, accI, blkI, fr1, List.length_nil, List.map_nil] at h1
    simp (maxDischargeDepth := 20) [VF7, vst_some, vgd_true, vgd_false, vgo_nil, vgo_cons, vgo_guard, bwanted_some, vop_p, vop_l, vop_k, vop_n, vnorm_some, vseqc_normal, vseqc_exit, vseqc_ret, vcondc_true, vcondc_false, vexec_dreg, vdgo_nil, vdgo_p, vdgo_l, vdgo_k, vdgo_n, vdgo_gp, vdgo_gl, vdgo_gk, vdgo_gn, vdp_some, vdl_some, vdk_some, vdn_some, vdw_true, vdw_false, room_zero, room_put, get_room, next_room, get_hide, hide_zero, vexec_skip, vexec_exit, vexec_ret, vexec_reg, vexec_seq, vexec_cond, vexec_block, vexec_loop, blockO_exit, blockO_normal, blockO_ret, vfin_some, vend_normal, vend_ret, vbody_eq, outO_normal, outO_exit, outO_ret, vround_eq, vkeep_false, bkeep_cons, bkeep_nil, bput_some, bput_none, look_cons, look_nil, AOp.sub, POp.sub, LOp.sub, KOp.sub, NOp.sub, AX.sub, AX.subO, AX.ev, vP, vL, vK, vN, vElems, vElemSize, aP, aL, aK, aN, cB_add, cB_sub, cB_mul, cB_eql, cB_neq, cB_lss, cB_leq, cB_gtr, cB_geq, cB_xor, cB_and, cB_or, cS_eql, cS_neq, cS_lss, cS_leq, cS_gtr, cS_geq, aLoad, aBytesStr, aElems, aElemSize, Mk.val, next_push, next_put, get_push, get_put, Heap.read, List.replicate, List.replicate_succ, start, vRes, vResL, vResults, List.headD, vfrz_some, vexit_eq, vexit1_frozen, vexit1_gc, vexit2_some, solV, solL, solz_succ, solz_zero, solF_some, sol1, List.tail_cons, List.tail_nil, frzL_nil, frzL_cons', frzM_some, frz_int, frz_bool, frz_str, frz_nilFunc, frz_undef, frz_list, frz_elem, frz_nilptr, frz_nilmap, frz_fn, frz_ptr, frz_nilslice, frz_func, frz_agg, frz_tuple, frz_slice, frz_acc, frzS_eq, frzTidy_nil, ice_nil, next_ice, get_ice, iceB_some, vAppend, fitsB, aFill, aPart, aUn, AV.cells?, AV.isCell, reps, byteC_def, accB, blkB, fr1, List.drop_succ_cons, List.drop_zero, List.drop_nil, vkeep_true, gc, gcIds, reach, grow, idsOfL, idsOf, ddup, gcPush, gcTidy, zipKeep, renL, ren, renId, ixOf, cellsOf, cut_zero, cut_p1, cut_p2, cut_p3, cut_p4, cut_app, cut_app0, cut_app1, cut_push, cut_put_lt, cut_put_ge, cut_ice, new_lt, new_lt2, new_lt3, new_lt4, new_le2, new_le3, new_le4, eqn_a, eqn_b, eqn_c, eqn_d, eqn_e, eqn_f, next_cut, get_cut, put_put, idsOfL_append, renL_append, idsOfL_bytes, idsOfL_strs, idsOfL_ints, renL_bytes, renL_strs, renL_ints, frzL_bytes, frzL_strs, frzL_ints, frzL_drop, frzL_take, idsOfL_drop, idsOfL_take, renL_drop, renL_take, toBytes_map, toBytes_drop, toBytes_take, toBytes_td, idsOf_byteC, ren_byteC, frz_byteC, next_empty, vSlice, vSliceA, aSlice, aBoundO, aBound, aShift, aSliceStr, loadOk, ofList, isList, bornL, bornX, bornXO, bornOf, bornPut_some, bornPut_none, bornP, known, knownL, AV.same, List.all_cons, List.all_nil, List.drop_zero, List.isEmpty_cons, List.isEmpty_nil, thawed, aFold, hmx, h1, ok_push, hH, cut_self _ hH, ice_new hH]

end Go.Proofs.Ytecjbeljchbihaa
