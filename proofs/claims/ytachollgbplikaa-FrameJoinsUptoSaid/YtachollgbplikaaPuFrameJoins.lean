/- FrameJoins in V (modes3.txt). -/
import Derived.Test.YtachollgbplikaaQApart
import Derived.Test.YtachollgbplikaaQLayA
import Derived.Test.YtachollgbplikaaAm33
set_option linter.all false
set_option linter.unusedSimpArgs false
namespace Go.Proofs.Ytachollgbplikaa
namespace frameJoins

theorem encF_len : ∀ r : List (List UInt8), (∀ z ∈ r, z.length ≤ 200) → (encF r).length ≤ 217 * r.length
  | [], _ => by simp [encF]
  | z :: r, h => by
    have := encF_len r fun y hy => h y (by simp [hy])
    have h9 := enc_le9 z (h z (by simp))
    have hz := h z (by simp)
    have hl := recF_len z
    simp only [encF, List.flatMap_cons, List.length_append, List.length_cons] at this ⊢
    omega

def bD (z : List UInt8) : D := .list (z.map fun b => D.int .u8 b.toNat)
theorem is_bD {d : D} (h : D.is (.list (.int .u8)) d) : ∃ z : List UInt8, d = bD z ∧ True := by
  obtain ⟨l, rfl, h⟩ := h
  obtain ⟨z, rfl⟩ := is_bytes h
  exact ⟨z, rfl, trivial⟩
theorem encL_bD (L : List (List UInt8)) : encL (.list (.int .u8)) (L.map bD) = L.map lst := by
  rw [encL_map (g := fun z => [lst z]) (fun z => by simp [bD, encS, encL_bytes, shSize]), flatMap_one]
theorem bulk_bD {L : List (List UInt8)} {n : Nat} (h : D.bulks (L.map bD) ≤ n) : ∀ z ∈ L, z.length ≤ n := by
  intro z hz
  have h1 := bulks_mem (List.mem_map_of_mem (f := bD) hz)
  have h2 : z.length ≤ D.bulk (bD z) := by
    simp only [bD, D.bulk]
    have := bulks_len (l := z.map fun b => D.int .u8 b.toNat) (by
      intro d hd
      obtain ⟨b, _, rfl⟩ := List.mem_map.1 hd
      simp [D.bulk])
    simp only [List.length_map] at this
    omega
  omega

theorem ixor_u8 (x w : UInt8) : ixor .u8 (x.toNat : Int) (w.toNat : Int) = ((x ^^^ w).toNat : Int) := by
  have hx := x.toNat_lt
  have hw := w.toNat_lt
  have e : (BitVec.ofInt 8 (x.toNat : Int) ^^^ BitVec.ofInt 8 (w.toNat : Int)).toNat = (x ^^^ w).toNat := by
    rw [BitVec.toNat_xor, BitVec.toNat_ofInt, BitVec.toNat_ofInt, UInt8.toNat_xor]
    have h1 : ((x.toNat : Int) % ((2 ^ 8 : Nat) : Int)).toNat = x.toNat := by omega
    have h2 : ((w.toNat : Int) % ((2 ^ 8 : Nat) : Int)).toNat = w.toNat := by omega
    rw [h1, h2]
  show IntKind.u8.wrap (((BitVec.ofInt 8 (x.toNat : Int) ^^^ BitVec.ofInt 8 (w.toNat : Int)).toNat : Nat) : Int) = _
  rw [e]
  have := (x ^^^ w).toNat_lt
  exact wrap_u8' (by omega)

theorem xor_ne {x w : UInt8} (h : w ≠ 0) : x ^^^ w ≠ x := by
  intro e
  apply h
  have := congrArg (x ^^^ ·) e
  simpa [← UInt8.xor_assoc] using this

set_option maxRecDepth 20000 in
set_option maxHeartbeats 8000000 in
theorem pure : VLaw (fun xs => vcall 25 vtab KK 30 fr0 6 xs Heap.empty) [.list (.list (.int .u8)), .list (.list (.int .u8)), .int .i64, .int .u8] 1048576 := by
  intro ds hare hb
  obtain ⟨d1, r1, rfl, i1, hare⟩ := are_cons hare
  obtain ⟨d2, r2, rfl, i2, hare⟩ := are_cons hare
  obtain ⟨d3, r3, rfl, i3, hare⟩ := are_cons hare
  obtain ⟨d4, r4, rfl, i4, hare⟩ := are_cons hare
  obtain rfl := are_nil hare
  obtain ⟨l1, rfl, i1⟩ := i1
  obtain ⟨l2, rfl, i2⟩ := i2
  obtain ⟨cut, rfl, hcut⟩ := i3
  obtain ⟨w, rfl⟩ := is_byte i4
  obtain ⟨L, rfl, _⟩ := is_map (f := bD) (P := fun _ => True) (fun d hd => is_bD hd) i1
  obtain ⟨M, rfl, _⟩ := is_map (f := bD) (P := fun _ => True) (fun d hd => is_bD hd) i2
  simp only [D.bulks, D.bulk] at hb
  have hzL := bulk_bD (L := L) (n := 1048576) (by omega)
  have hzM := bulk_bD (L := M) (n := 1048576) (by omega)
  have hk : isKn 25 = true := rfl
  have hK : 1099511627776 < KK := by decide
  clear hb i1 i2 i4
  have c1 := fun fr H args => call_of (K := KK) (d := 28) (fr := fr) (args := args) (H := H) hk (f := 26) rfl rfl
  have c2 := fun fr H args => call_of (K := KK) (d := 28) (fr := fr) (args := args) (H := H) hk (f := 23) rfl rfl
  have c3 := fun fr H args => call_of (K := KK) (d := 28) (fr := fr) (args := args) (H := H) hk (f := 28) rfl rfl
  have c4 := fun fr H args => call_of (K := KK) (d := 28) (fr := fr) (args := args) (H := H) hk (f := 24) rfl rfl
  have kn := fun fr H => vcall_kn (kn := 25) (K := KK) (d := 28) (fr := fr) (H := H)
  have h1 := fun fr H hH => some_spec (K := KK) (d := 27) hk hK fr H hH L fun z hz' => by have := hzL z hz'; omega
  have h1' := fun fr H hH => some_spec (K := KK) (d := 27) hk hK fr H hH M fun z hz' => by have := hzM z hz'; omega
  have s8 : ∀ X : List (List UInt8), (someL X).length ≤ 8 := fun X => by simp [someL]; omega
  have s200 : ∀ X : List (List UInt8), ∀ z ∈ someL X, z.length ≤ 200 := by
    intro X z hz'
    obtain ⟨y, _, rfl⟩ := List.mem_map.1 hz'
    rw [List.length_take]; omega
  have hl8 := s8 L
  have hm8 := s8 M
  have hl := s200 L
  have hm := s200 M
  have hMs : M = [] ↔ someL M = [] := by cases M <;> simp [someL]
  generalize someL L = rl at *
  generalize someL M = rm at *
  have h2 := fun fr H hH ex => layA_spec (K := KK) (d := 25) hk hK fr H hH [] ex (by simp) rl false hl8 hl
  have h3 := fun fr H hH ex => layA_spec (K := KK) (d := 25) hk hK fr H hH [] ex (by simp) rm false hm8 hm
  have hAl := encF_len rl hl
  have hMl := encF_len rm hm
  have h4 := fun fr H hH => layA_spec (K := KK) (d := 25) hk hK fr H hH (encF rl) false (by omega) rm false hm8 hm
  rw [layOf_enc, List.nil_append] at h2 h3
  rw [layOf_enc] at h4
  have tA := toBytes_map (encF rl)
  have tM := toBytes_map (encF rm)
  have tC := toBytes_map (encF rl ++ encF rm)
  rw [List.map_append] at tC
  have hadd := cS_add (encF rl) (encF rm) (by omega)
  have f1 := idsOfL_lst rl
  have f2 := fun m q => renL_lst m q rl
  have f3 := fun H n e => frzL_lst H n e rl
  have e1 := idsOfL_lst rm
  have e2 := fun m q => renL_lst m q rm
  have e3 := fun H n e => frzL_lst H n e rm
  have g1 := idsOfL_lst L
  have g2 := fun m q => renL_lst m q L
  have g3 := fun H n e => frzL_lst H n e L
  have k1 := idsOfL_lst M
  have k2 := fun m q => renL_lst m q M
  have k3 := fun H n e => frzL_lst H n e M
  have htA := take_map byteC (encF rl)
  have htM := take_map byteC (encF rm)
  have htC : List.take ((encF rl).length + (encF rm).length) ((encF rl).map byteC ++ (encF rm).map byteC) = (encF rl).map byteC ++ (encF rm).map byteC := List.take_of_length_le (by simp)
  have fz : ∀ H n e, frzL (frz H n e) ((encF rl).map byteC ++ (encF rm).map byteC) = some ((encF rl).map byteC ++ (encF rm).map byteC, []) := fun H n e => by
    have := frzL_bytes H n e (encF rl ++ encF rm)
    rw [List.map_append] at this
    exact this
  simp only [lstE, lstL, lst, accB, blkB, List.length_nil, List.map_nil, List.length_append, List.map_append] at h1 h1' h2 h3 h4
  refine ⟨Heap.empty, ?_⟩
  simp only [List.map_cons, List.map_nil, encArgs, encArg, encS, encL_bD, List.headD, shSize, List.length_map]
  rw [call_of hk (f := 6) rfl rfl]
  simp (maxDischargeDepth := 20) [vst_some, vgd_true, vgd_false, vgo_nil, vgo_cons, vgo_guard, bwanted_some, vop_p, vop_l, vop_k, vop_n, vnorm_some, vseqc_normal, vseqc_exit, vseqc_ret, vcondc_true, vcondc_false, vexec_dreg, vdgo_nil, vdgo_p, vdgo_l, vdgo_k, vdgo_n, vdgo_gp, vdgo_gl, vdgo_gk, vdgo_gn, vdp_some, vdl_some, vdk_some, vdn_some, vdw_true, vdw_false, room_zero, room_put, get_room, next_room, get_hide, hide_zero, vexec_skip, vexec_exit, vexec_ret, vexec_reg, vexec_seq, vexec_cond, vexec_block, vexec_loop, blockO_exit, blockO_normal, blockO_ret, vfin_some, vend_normal, vend_ret, vbody_eq, outO_normal, outO_exit, outO_ret, vround_eq, vkeep_false, bkeep_cons, bkeep_nil, bput_some, bput_none, look_cons, look_nil, AOp.sub, POp.sub, LOp.sub, KOp.sub, NOp.sub, AX.sub, AX.subO, AX.ev, vP, vL, vK, vN, vElems, vElemSize, aP, aL, aK, aN, cB_add, cB_sub, cB_mul, cB_eql, cB_neq, cB_lss, cB_leq, cB_gtr, cB_geq, cB_xor, cB_and, cB_or, cS_eql, cS_neq, cS_lss, cS_leq, cS_gtr, cS_geq, aLoad, aBytesStr, aElems, aElemSize, Mk.val, next_push, next_put, get_push, get_put, Heap.read, List.replicate, List.replicate_succ, start, vRes, vResL, vResults, List.headD, vfrz_some, vexit_eq, vexit1_frozen, vexit1_gc, vexit2_some, solV, solL, solz_succ, solz_zero, solF_some, sol1, List.tail_cons, List.tail_nil, frzL_nil, frzL_cons', frzM_some, frz_int, frz_bool, frz_str, frz_nilFunc, frz_undef, frz_list, frz_elem, frz_nilptr, frz_nilmap, frz_fn, frz_ptr, frz_nilslice, frz_func, frz_agg, frz_tuple, frz_slice, frz_acc, frzS_eq, frzTidy_nil, ice_nil, next_ice, get_ice, iceB_some, vAppend, fitsB, aFill, aPart, aUn, AV.cells?, AV.isCell, reps, byteC_def, accB, blkB, fr1, List.drop_succ_cons, List.drop_zero, List.drop_nil, vkeep_true, gc, gcIds, reach, grow, idsOfL, idsOf, ddup, gcPush, gcTidy, zipKeep, renL, ren, renId, ixOf, cellsOf, cut_zero, cut_p1, cut_p2, cut_p3, cut_p4, cut_app, cut_app0, cut_app1, cut_push, cut_put_lt, cut_put_ge, cut_ice, new_lt, new_lt2, new_lt3, new_lt4, new_le2, new_le3, new_le4, eqn_a, eqn_b, eqn_c, eqn_d, eqn_e, eqn_f, next_cut, get_cut, put_put, idsOfL_append, renL_append, idsOfL_bytes, idsOfL_strs, idsOfL_ints, renL_bytes, renL_strs, renL_ints, frzL_bytes, frzL_strs, frzL_ints, frzL_drop, frzL_take, idsOfL_drop, idsOfL_take, renL_drop, renL_take, toBytes_map, toBytes_drop, toBytes_take, toBytes_td, idsOf_byteC, ren_byteC, frz_byteC, next_empty, g1, g2, g3, k1, k2, k3]
  rw [body_bare rfl rfl]
  by_cases hM0 : M = []
  · subst hM0
    simp only [List.map_nil, List.length_nil] at h1'
    simp (maxDischargeDepth := 20) [VF6, vst_some, vgd_true, vgd_false, vgo_nil, vgo_cons, vgo_guard, bwanted_some, vop_p, vop_l, vop_k, vop_n, vnorm_some, vseqc_normal, vseqc_exit, vseqc_ret, vcondc_true, vcondc_false, vexec_dreg, vdgo_nil, vdgo_p, vdgo_l, vdgo_k, vdgo_n, vdgo_gp, vdgo_gl, vdgo_gk, vdgo_gn, vdp_some, vdl_some, vdk_some, vdn_some, vdw_true, vdw_false, room_zero, room_put, get_room, next_room, get_hide, hide_zero, vexec_skip, vexec_exit, vexec_ret, vexec_reg, vexec_seq, vexec_cond, vexec_block, vexec_loop, blockO_exit, blockO_normal, blockO_ret, vfin_some, vend_normal, vend_ret, vbody_eq, outO_normal, outO_exit, outO_ret, vround_eq, vkeep_false, bkeep_cons, bkeep_nil, bput_some, bput_none, look_cons, look_nil, AOp.sub, POp.sub, LOp.sub, KOp.sub, NOp.sub, AX.sub, AX.subO, AX.ev, vP, vL, vK, vN, vElems, vElemSize, aP, aL, aK, aN, cB_add, cB_sub, cB_mul, cB_eql, cB_neq, cB_lss, cB_leq, cB_gtr, cB_geq, cB_xor, cB_and, cB_or, cS_eql, cS_neq, cS_lss, cS_leq, cS_gtr, cS_geq, aLoad, aBytesStr, aElems, aElemSize, Mk.val, next_push, next_put, get_push, get_put, Heap.read, List.replicate, List.replicate_succ, start, vRes, vResL, vResults, List.headD, vfrz_some, vexit_eq, vexit1_frozen, vexit1_gc, vexit2_some, solV, solL, solz_succ, solz_zero, solF_some, sol1, List.tail_cons, List.tail_nil, frzL_nil, frzL_cons', frzM_some, frz_int, frz_bool, frz_str, frz_nilFunc, frz_undef, frz_list, frz_elem, frz_nilptr, frz_nilmap, frz_fn, frz_ptr, frz_nilslice, frz_func, frz_agg, frz_tuple, frz_slice, frz_acc, frzS_eq, frzTidy_nil, ice_nil, next_ice, get_ice, iceB_some, vAppend, fitsB, aFill, aPart, aUn, AV.cells?, AV.isCell, reps, byteC_def, accB, blkB, fr1, List.drop_succ_cons, List.drop_zero, List.drop_nil, vkeep_true, gc, gcIds, reach, grow, idsOfL, idsOf, ddup, gcPush, gcTidy, zipKeep, renL, ren, renId, ixOf, cellsOf, cut_zero, cut_p1, cut_p2, cut_p3, cut_p4, cut_app, cut_app0, cut_app1, cut_push, cut_put_lt, cut_put_ge, cut_ice, new_lt, new_lt2, new_lt3, new_lt4, new_le2, new_le3, new_le4, eqn_a, eqn_b, eqn_c, eqn_d, eqn_e, eqn_f, next_cut, get_cut, put_put, idsOfL_append, renL_append, idsOfL_bytes, idsOfL_strs, idsOfL_ints, renL_bytes, renL_strs, renL_ints, frzL_bytes, frzL_strs, frzL_ints, frzL_drop, frzL_take, idsOfL_drop, idsOfL_take, renL_drop, renL_take, toBytes_map, toBytes_drop, toBytes_take, toBytes_td, idsOf_byteC, ren_byteC, frz_byteC, next_empty, loadOk, ofList, isList, bornL, bornX, bornXO, bornOf, bornPut_some, bornPut_none, bornP, known, knownL, AV.same, AV.sameL, List.all_cons, List.all_nil, List.drop_zero, List.isEmpty_cons, List.isEmpty_nil, thawed, vSlice, vSliceA, aSlice, aBoundO, aBound, aShift, aSliceStr, frzTidy, okStore, aStore, ptrOk, Heap.write, aEqKs, aEqK, aEqP, c1, c2, c3, c4, kn, h1, h1', h2, h3, h4, tA, tM, tC, hadd, htA, htM, htC, fz, f1, f2, f3, e1, e2, e3, g1, g2, g3, ok_push, ok_ice, ok_empty]
  have hMl0 : (M.length = 0) = False := eq_false (fun e => hM0 (List.length_eq_zero_iff.1 e))
  by_cases hw0 : w = 0
  · subst hw0
    simp (maxDischargeDepth := 20) [VF6, vst_some, vgd_true, vgd_false, vgo_nil, vgo_cons, vgo_guard, bwanted_some, vop_p, vop_l, vop_k, vop_n, vnorm_some, vseqc_normal, vseqc_exit, vseqc_ret, vcondc_true, vcondc_false, vexec_dreg, vdgo_nil, vdgo_p, vdgo_l, vdgo_k, vdgo_n, vdgo_gp, vdgo_gl, vdgo_gk, vdgo_gn, vdp_some, vdl_some, vdk_some, vdn_some, vdw_true, vdw_false, room_zero, room_put, get_room, next_room, get_hide, hide_zero, vexec_skip, vexec_exit, vexec_ret, vexec_reg, vexec_seq, vexec_cond, vexec_block, vexec_loop, blockO_exit, blockO_normal, blockO_ret, vfin_some, vend_normal, vend_ret, vbody_eq, outO_normal, outO_exit, outO_ret, vround_eq, vkeep_false, bkeep_cons, bkeep_nil, bput_some, bput_none, look_cons, look_nil, AOp.sub, POp.sub, LOp.sub, KOp.sub, NOp.sub, AX.sub, AX.subO, AX.ev, vP, vL, vK, vN, vElems, vElemSize, aP, aL, aK, aN, cB_add, cB_sub, cB_mul, cB_eql, cB_neq, cB_lss, cB_leq, cB_gtr, cB_geq, cB_xor, cB_and, cB_or, cS_eql, cS_neq, cS_lss, cS_leq, cS_gtr, cS_geq, aLoad, aBytesStr, aElems, aElemSize, Mk.val, next_push, next_put, get_push, get_put, Heap.read, List.replicate, List.replicate_succ, start, vRes, vResL, vResults, List.headD, vfrz_some, vexit_eq, vexit1_frozen, vexit1_gc, vexit2_some, solV, solL, solz_succ, solz_zero, solF_some, sol1, List.tail_cons, List.tail_nil, frzL_nil, frzL_cons', frzM_some, frz_int, frz_bool, frz_str, frz_nilFunc, frz_undef, frz_list, frz_elem, frz_nilptr, frz_nilmap, frz_fn, frz_ptr, frz_nilslice, frz_func, frz_agg, frz_tuple, frz_slice, frz_acc, frzS_eq, frzTidy_nil, ice_nil, next_ice, get_ice, iceB_some, vAppend, fitsB, aFill, aPart, aUn, AV.cells?, AV.isCell, reps, byteC_def, accB, blkB, fr1, List.drop_succ_cons, List.drop_zero, List.drop_nil, vkeep_true, gc, gcIds, reach, grow, idsOfL, idsOf, ddup, gcPush, gcTidy, zipKeep, renL, ren, renId, ixOf, cellsOf, cut_zero, cut_p1, cut_p2, cut_p3, cut_p4, cut_app, cut_app0, cut_app1, cut_push, cut_put_lt, cut_put_ge, cut_ice, new_lt, new_lt2, new_lt3, new_lt4, new_le2, new_le3, new_le4, eqn_a, eqn_b, eqn_c, eqn_d, eqn_e, eqn_f, next_cut, get_cut, put_put, idsOfL_append, renL_append, idsOfL_bytes, idsOfL_strs, idsOfL_ints, renL_bytes, renL_strs, renL_ints, frzL_bytes, frzL_strs, frzL_ints, frzL_drop, frzL_take, idsOfL_drop, idsOfL_take, renL_drop, renL_take, toBytes_map, toBytes_drop, toBytes_take, toBytes_td, idsOf_byteC, ren_byteC, frz_byteC, next_empty, loadOk, ofList, isList, bornL, bornX, bornXO, bornOf, bornPut_some, bornPut_none, bornP, known, knownL, AV.same, AV.sameL, List.all_cons, List.all_nil, List.drop_zero, List.isEmpty_cons, List.isEmpty_nil, thawed, vSlice, vSliceA, aSlice, aBoundO, aBound, aShift, aSliceStr, frzTidy, okStore, aStore, ptrOk, Heap.write, aEqKs, aEqK, aEqP, c1, c2, c3, c4, kn, h1, h1', h2, h3, h4, tA, tM, tC, hadd, htA, htM, htC, fz, hM0, hMl0, f1, f2, f3, e1, e2, e3, g1, g2, g3, k1, k2, k3, ok_push, ok_ice, ok_empty]
  cases rm with
  | nil => exact absurd (hMs.2 rfl) hM0
  | cons z rms =>
  have hzl : z.length ≤ 200 := hm z (by simp)
  have h5 := fun fr H hH ex e' => layA_spec (K := KK) (d := 25) hk hK fr H hH [] ex (by simp) [z] e' (by simp) (by simpa using hzl)
  have hlz : layOf [] [z] = recF z := by rw [layOf_enc]; simp [encF]
  rw [hlz] at h5
  have fzl : ∀ H k e, frz H (k + 1) e (lst z) = some (lst z, []) := fun _ _ _ => rfl
  have hF := recF_len z
  have h9 := enc_le9 z hzl
  have hB : encF (z :: rms) = recF z ++ encF rms := by simp [encF]
  have hBl : (encF (z :: rms)).length = (recF z).length + (encF rms).length := by rw [hB, List.length_append]
  obtain ⟨p, hp1, hp2⟩ : ∃ p : Nat, cut % ((z.length : Int) + 8) = p ∧ p < z.length + 8 := by
    have q1 := Int.emod_nonneg cut (show ((z.length : Int) + 8) ≠ 0 by omega)
    have q2 := Int.emod_lt_of_pos cut (show 0 < ((z.length : Int) + 8) by omega)
    exact ⟨(cut % ((z.length : Int) + 8)).toNat, by omega, by omega⟩
  have h6 := fun fr H hH => pick_spec (C := vcall 25 vtab KK 28) (K := KK) fr H hH cut ((z.length : Int) + 8) (by omega) hcut (by omega)
  have hX8 : (sum8 z ++ z).length = z.length + 8 := by rw [List.length_append, sum8_len]; omega
  -- the byte
  obtain ⟨idx, hidx⟩ : ∃ idx : Nat, idx = (encF rl).length + ((encN z.length).length + p) := ⟨_, rfl⟩
  have hidl : idx < (encF rl).length + (encF (z :: rms)).length := by omega
  have hlen2 : (encF rl ++ encF (z :: rms)).length = (encF rl).length + (encF (z :: rms)).length := List.length_append
  have hi : idx < (encF rl ++ encF (z :: rms)).length := by rw [hlen2]; exact hidl
  have hpX : p < (sum8 z ++ z).length := by rw [hX8]; omega
  have hx : ((encF rl).map byteC ++ (encF (z :: rms)).map byteC)[idx]? = some (byteC ((encF rl ++ encF (z :: rms))[idx]'hi)) := by
    rw [← List.map_append, List.getElem?_map, List.getElem?_eq_getElem hi]
    rfl
  have hbytes : (encF rl ++ encF (z :: rms))[idx]'hi = (sum8 z ++ z)[p]'hpX := by
    subst hidx
    rw [List.getElem_append_right (by omega)]
    simp only [Nat.add_sub_cancel_left, hB, recF]
    rw [List.getElem_append_left (by simp only [List.length_append, sum8_len]; omega)]
    simp only [List.append_assoc]
    rw [List.getElem_append_right (by omega)]
    simp only [Nat.add_sub_cancel_left]
  have hsetC : ∀ v : UInt8, (encF rl ++ encF (z :: rms)).set idx v = encF rl ++ (encN z.length ++ (sum8 z ++ z).set p v ++ encF rms) := by
    intro v
    subst hidx
    rw [List.set_append_right _ _ (by omega), Nat.add_sub_cancel_left, hB, recF, List.set_append_left _ _ (by simp only [List.length_append, sum8_len]; omega), List.append_assoc (encN z.length), List.set_append_right _ _ (by omega), Nat.add_sub_cancel_left]
  have hset : ∀ v : UInt8, List.take idx ((encF rl).map byteC ++ (encF (z :: rms)).map byteC) ++ byteC v :: List.drop (idx + 1) ((encF rl).map byteC ++ (encF (z :: rms)).map byteC) = ((encF rl ++ encF (z :: rms)).set idx v).map byteC := by
    intro v
    rw [← List.map_append, List.map_set, List.set_eq_take_append_cons_drop, if_pos (by rw [List.length_map]; exact hi)]
  have hread : ∀ v : UInt8, v ≠ (sum8 z ++ z)[p]'hpX → readR ((encF rl ++ encF (z :: rms)).set idx v) = (rl, (encF rl).length) := by
    intro v hv
    rw [hsetC]
    exact readR_then rl hl _ (one_turned z _ hzl p hp2 v hv)
  rw [hbytes] at hx
  generalize hxe : (sum8 z ++ z)[p]'hpX = x at *
  have hrd := hread (x ^^^ w) (xor_ne hw0)
  have hst := hset (x ^^^ w)
  have h7 := fun fr H hH ex => read_spec (K := KK) (d := 23) hk hK fr H hH ((encF rl ++ encF (z :: rms)).set idx (x ^^^ w)) ex (by rw [List.length_set, hlen2]; omega)
  rw [hrd, List.length_set, hlen2] at h7
  have hxw := ixor_u8 x w
  have wq1 : IntKind.i64.wrap (((recF z).length : Int) - (z.length : Int)) = ((recF z).length : Int) - z.length := by rw [wrap_i64] <;> omega
  have wq2 : IntKind.i64.wrap (((recF z).length : Int) - (z.length : Int) - 8) = ((recF z).length : Int) - z.length - 8 := by rw [wrap_i64] <;> omega
  have wq3 : IntKind.i64.wrap ((z.length : Int) + 8) = (z.length : Int) + 8 := by rw [wrap_i64] <;> omega
  have wq4 : IntKind.i64.wrap (((recF z).length : Int) - (z.length : Int) - 8 + (p : Int)) = ((encN z.length).length : Int) + p := by rw [wrap_i64] <;> omega
  have wq5 : IntKind.i64.wrap (((encF rl).length : Int) + (((encN z.length).length : Int) + (p : Int))) = (idx : Int) := by rw [wrap_i64] <;> omega
  have hw0' : ((w.toNat : Int) = 0) = False := eq_false (fun e => hw0 (UInt8.toNat_inj.1 (by simp; omega)))
  have hw0n : (w.toNat = 0) = False := eq_false (fun e => hw0 (UInt8.toNat_inj.1 (by simpa using e)))
  have hCl : (((encF rl ++ encF (z :: rms)).set idx (x ^^^ w)).map byteC).length = (encF rl).length + (encF (z :: rms)).length := by rw [List.length_map, List.length_set, hlen2]
  have hCt : List.take ((encF rl).length + (encF (z :: rms)).length) (((encF rl ++ encF (z :: rms)).set idx (x ^^^ w)).map byteC) = ((encF rl ++ encF (z :: rms)).set idx (x ^^^ w)).map byteC := List.take_of_length_le (by omega)
  have hCf := fun H n e => frzL_bytes H n e ((encF rl ++ encF (z :: rms)).set idx (x ^^^ w))
  generalize ((encF rl ++ encF (z :: rms)).set idx (x ^^^ w)) = C at *
  have hfr := take_map byteC (recF z)
  clear hbytes hsetC hset hread hxe hrd
  generalize encF rl = A at *
  generalize encF (z :: rms) = B at *
  generalize recF z = F at *
  simp only [lstE, lst, accB, blkB, List.length_cons, List.length_nil, List.map_nil, List.map_cons, Nat.zero_add] at h5 h6 h7
  have hidI : ((idx : Int) < (A.length : Int) + (B.length : Int)) = True := eq_true (by omega)
  have hidN : (idx + 1 ≤ A.length + B.length) = True := eq_true (by omega)
  have hidM : (idx < A.length + B.length) = True := eq_true hidl
  have hxb : byteC x = .int .u8 x.toNat := rfl
  have hvb : byteC (x ^^^ w) = .int .u8 (x ^^^ w).toNat := rfl
  rw [hxb] at hx
  rw [hvb, UInt8.toNat_xor] at hst
  rw [UInt8.toNat_xor] at hxw
  have hxg : ∀ h : idx < (List.map byteC A ++ List.map byteC B).length, (List.map byteC A ++ List.map byteC B)[idx]'h = .int .u8 x.toNat := fun h => by
    rw [List.getElem?_eq_getElem h] at hx
    exact Option.some.inj hx
  simp only [List.map_cons, List.length_cons] at h1' e1 e2 e3 h3 h4
  simp (maxDischargeDepth := 20) [VF6, vst_some, vgd_true, vgd_false, vgo_nil, vgo_cons, vgo_guard, bwanted_some, vop_p, vop_l, vop_k, vop_n, vnorm_some, vseqc_normal, vseqc_exit, vseqc_ret, vcondc_true, vcondc_false, vexec_dreg, vdgo_nil, vdgo_p, vdgo_l, vdgo_k, vdgo_n, vdgo_gp, vdgo_gl, vdgo_gk, vdgo_gn, vdp_some, vdl_some, vdk_some, vdn_some, vdw_true, vdw_false, room_zero, room_put, get_room, next_room, get_hide, hide_zero, vexec_skip, vexec_exit, vexec_ret, vexec_reg, vexec_seq, vexec_cond, vexec_block, vexec_loop, blockO_exit, blockO_normal, blockO_ret, vfin_some, vend_normal, vend_ret, vbody_eq, outO_normal, outO_exit, outO_ret, vround_eq, vkeep_false, bkeep_cons, bkeep_nil, bput_some, bput_none, look_cons, look_nil, AOp.sub, POp.sub, LOp.sub, KOp.sub, NOp.sub, AX.sub, AX.subO, AX.ev, vP, vL, vK, vN, vElems, vElemSize, aP, aL, aK, aN, cB_add, cB_sub, cB_mul, cB_eql, cB_neq, cB_lss, cB_leq, cB_gtr, cB_geq, cB_xor, cB_and, cB_or, cS_eql, cS_neq, cS_lss, cS_leq, cS_gtr, cS_geq, aLoad, aBytesStr, aElems, aElemSize, Mk.val, next_push, next_put, get_push, get_put, Heap.read, List.replicate, List.replicate_succ, start, vRes, vResL, vResults, List.headD, vfrz_some, vexit_eq, vexit1_frozen, vexit1_gc, vexit2_some, solV, solL, solz_succ, solz_zero, solF_some, sol1, List.tail_cons, List.tail_nil, frzL_nil, frzL_cons', frzM_some, frz_int, frz_bool, frz_str, frz_nilFunc, frz_undef, frz_list, frz_elem, frz_nilptr, frz_nilmap, frz_fn, frz_ptr, frz_nilslice, frz_func, frz_agg, frz_tuple, frz_slice, frz_acc, frzS_eq, frzTidy_nil, ice_nil, next_ice, get_ice, iceB_some, vAppend, fitsB, aFill, aPart, aUn, AV.cells?, AV.isCell, reps, byteC_def, accB, blkB, fr1, List.drop_succ_cons, List.drop_zero, List.drop_nil, vkeep_true, gc, gcIds, reach, grow, idsOfL, idsOf, ddup, gcPush, gcTidy, zipKeep, renL, ren, renId, ixOf, cellsOf, cut_zero, cut_p1, cut_p2, cut_p3, cut_p4, cut_app, cut_app0, cut_app1, cut_push, cut_put_lt, cut_put_ge, cut_ice, new_lt, new_lt2, new_lt3, new_lt4, new_le2, new_le3, new_le4, eqn_a, eqn_b, eqn_c, eqn_d, eqn_e, eqn_f, next_cut, get_cut, put_put, idsOfL_append, renL_append, idsOfL_bytes, idsOfL_strs, idsOfL_ints, renL_bytes, renL_strs, renL_ints, frzL_bytes, frzL_strs, frzL_ints, frzL_drop, frzL_take, idsOfL_drop, idsOfL_take, renL_drop, renL_take, toBytes_map, toBytes_drop, toBytes_take, toBytes_td, idsOf_byteC, ren_byteC, frz_byteC, next_empty, loadOk, ofList, isList, bornL, bornX, bornXO, bornOf, bornPut_some, bornPut_none, bornP, known, knownL, AV.same, AV.sameL, List.all_cons, List.all_nil, List.drop_zero, List.isEmpty_cons, List.isEmpty_nil, thawed, vSlice, vSliceA, aSlice, aBoundO, aBound, aShift, aSliceStr, frzTidy, okStore, aStore, ptrOk, Heap.write, aEqKs, aEqK, aEqP, c1, c2, c3, c4, kn, h1, h1', h2, h3, h4, h5, h6, h7, tA, tM, tC, hadd, htA, htM, htC, fz, hM0, hMl0, hw0', hw0n, hp1, hx, hxg, hst, hxw, wq1, wq2, wq3, wq4, wq5, hidI, hidN, hidM, hCl, hCt, hCf, hfr, fzl, f1, f2, f3, e1, e2, e3, g1, g2, g3, k1, k2, k3, ok_push, ok_put, ok_ice, ok_empty]

end frameJoins
end Go.Proofs.Ytachollgbplikaa
