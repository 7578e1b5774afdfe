/- frame: a sum's bytes; slices.Equal. -/
import Derived.Test.YtachollgbplikaaQSum
import Derived.Test.YtachollgbplikaaQConcat
import Derived.Test.YtachollgbplikaaQPick
set_option linter.all false
set_option linter.unusedSimpArgs false
namespace Go.Proofs.Ytachollgbplikaa

def sByte (h : Int) (k : Nat) : UInt8 := UInt8.ofNat (IntKind.u8.wrap (h.fdiv (2 ^ (min (8 * (7 - k)) 64)))).toNat
def sum8 (s : List UInt8) : List UInt8 := (List.range 8).map (sByte (sumOf [s]))
theorem sum8_len (s : List UInt8) : (sum8 s).length = 8 := by simp [sum8]

theorem wrap_u8_range (x : Int) : 0 ≤ IntKind.u8.wrap x ∧ IntKind.u8.wrap x < 256 := by
  simp [IntKind.wrap, IntKind.signed, IntKind.bits]
  omega

theorem sByte_byteC (h : Int) (k : Nat) : byteC (sByte h k) = .int .u8 (IntKind.u8.wrap (h.fdiv (2 ^ (min (8 * (7 - k)) 64)))) := by
  obtain ⟨a, b⟩ := wrap_u8_range (h.fdiv (2 ^ (min (8 * (7 - k)) 64)))
  unfold sByte
  rw [byteC_ofNat (by omega)]
  congr 1
  omega

theorem s8_round (C : VCalls) (K : Nat) (H : Heap) (hH : H.Ok) (h : Int) (i : Nat) (hi : i < 8) (p : List UInt8) (hp : p.length = i) :
    VR83_0 C K (fr1 H) ([(3, .int .u64 h), (4, accB H p), (10, .int .i64 i)], blkB H p) = some (.inl ([(3, .int .u64 h), (4, accB H (p ++ [sByte h i])), (10, .int .i64 (i + 1 : Nat))], blkB H (p ++ [sByte h i]))) := by
  have hw : IntKind.i64.wrap ((i : Int) + 1) = (i : Int) + 1 := by rw [wrap_i64] <;> omega
  have h1 : IntKind.i64.wrap (7 - (i : Int)) = 7 - i := by rw [wrap_i64] <;> omega
  have h2 : IntKind.i64.wrap (8 * (7 - (i : Int))) = 8 * (7 - i) := by rw [wrap_i64] <;> omega
  have h3 := cB_shr .u64 .i64 h (8 * (7 - (i : Int))) (by omega)
  have h4 : (8 * (7 - (i : Int))).toNat = 8 * (7 - i) := by omega
  rw [h4] at h3
  have i8 : (i : Int) < 8 := by omega
  have w3 : p.length + 1 ≤ 70368744177664 := by omega
  have hb := sByte_byteC h i
  have e64 : IntKind.u64.bits = 64 := rfl
  rw [e64] at h3
  generalize h.fdiv (2 ^ (min (8 * (7 - i)) 64)) = x at *
  generalize sByte h i = y at *
  simp (maxDischargeDepth := 20) [VB83_0, vst_some, vgd_true, vgd_false, vgo_nil, vgo_cons, vgo_guard, bwanted_some, vop_p, vop_l, vop_k, vop_n, vnorm_some, vseqc_normal, vseqc_exit, vseqc_ret, vcondc_true, vcondc_false, vexec_dreg, vdgo_nil, vdgo_p, vdgo_l, vdgo_k, vdgo_n, vdgo_gp, vdgo_gl, vdgo_gk, vdgo_gn, vdp_some, vdl_some, vdk_some, vdn_some, vdw_true, vdw_false, room_zero, room_put, get_room, next_room, get_hide, hide_zero, vexec_skip, vexec_exit, vexec_ret, vexec_reg, vexec_seq, vexec_cond, vexec_block, vexec_loop, blockO_exit, blockO_normal, blockO_ret, vfin_some, vend_normal, vend_ret, vbody_eq, outO_normal, outO_exit, outO_ret, vround_eq, vkeep_false, bkeep_cons, bkeep_nil, bput_some, bput_none, look_cons, look_nil, AOp.sub, POp.sub, LOp.sub, KOp.sub, NOp.sub, AX.sub, AX.subO, AX.ev, vP, vL, vK, vN, vElems, vElemSize, aP, aL, aK, aN, cB_add, cB_sub, cB_mul, cB_eql, cB_neq, cB_lss, cB_leq, cB_gtr, cB_geq, cB_xor, cB_and, cB_or, cS_eql, cS_neq, cS_lss, cS_leq, cS_gtr, cS_geq, aLoad, aBytesStr, aElems, aElemSize, Mk.val, next_push, next_put, get_push, get_put, Heap.read, List.replicate, List.replicate_succ, start, vRes, vResL, vResults, List.headD, vfrz_some, vexit_eq, vexit1_frozen, vexit1_gc, vexit2_some, solV, solL, solz_succ, solz_zero, solF_some, sol1, List.tail_cons, List.tail_nil, frzL_nil, frzL_cons', frzM_some, frz_int, frz_bool, frz_str, frz_nilFunc, frz_undef, frz_list, frz_elem, frz_nilptr, frz_nilmap, frz_fn, frz_ptr, frz_nilslice, frz_func, frz_agg, frz_tuple, frz_slice, frz_acc, frzS_eq, frzTidy_nil, ice_nil, next_ice, get_ice, iceB_some, vAppend, fitsB, aFill, aPart, aUn, AV.cells?, AV.isCell, reps, byteC_def, accB, blkB, fr1, List.drop_succ_cons, List.drop_zero, List.drop_nil, vkeep_true, gc, gcIds, reach, grow, idsOfL, idsOf, ddup, gcPush, gcTidy, zipKeep, renL, ren, renId, ixOf, cellsOf, cut_zero, cut_p1, cut_p2, cut_p3, cut_p4, cut_app, cut_app0, cut_app1, cut_push, cut_put_lt, cut_put_ge, cut_ice, new_lt, new_lt2, new_lt3, new_lt4, new_le2, new_le3, new_le4, eqn_a, eqn_b, eqn_c, eqn_d, eqn_e, eqn_f, next_cut, get_cut, put_put, idsOfL_append, renL_append, idsOfL_bytes, idsOfL_strs, idsOfL_ints, renL_bytes, renL_strs, renL_ints, frzL_bytes, frzL_strs, frzL_ints, frzL_drop, frzL_take, idsOfL_drop, idsOfL_take, renL_drop, renL_take, toBytes_map, toBytes_drop, toBytes_take, toBytes_td, idsOf_byteC, ren_byteC, frz_byteC, next_empty, hw, h1, h2, h3, i8, w3, hb, ok_push, ok_ice, hH, cut_self _ hH, ice_new hH]

theorem s8_loop (C : VCalls) (K : Nat) (hK : 9 ≤ K) (H : Heap) (hH : H.Ok) (h : Int) :
    VU83_0 C K (fr1 H) K ([(3, .int .u64 h), (4, accB H []), (10, .int .i64 0)], blkB H []) = some (.exit 0, [(4, accB H ((List.range 8).map (sByte h)))], blkB H ((List.range 8).map (sByte h))) := by
  have e : ∀ (r : List Nat) (p : List UInt8), r.foldl (fun p x => p ++ [sByte h x]) p = p ++ r.map (sByte h) := by
    intro r
    induction r with
    | nil => intro p; simp
    | cons x r ih => intro p; simp [ih]
  have : VU83_0 C K (fr1 H) K ([(3, .int .u64 h), (4, accB H []), (10, .int .i64 0)], blkB H []) = some (.exit 0, [(4, accB H ((List.range 8).foldl (fun p x => p ++ [sByte h x]) []))], blkB H ((List.range 8).foldl (fun p x => p ++ [sByte h x]) [])) :=
    vrun_list (L := List.range 8) (st := fun p i => ([(3, .int .u64 h), (4, accB H p), (10, .int .i64 i)], blkB H p)) (step := fun p x => p ++ [sByte h x]) (fin := fun p => (.exit 0, [(4, accB H p)], blkB H p))
      (fun p i => p.length = i)
      (fun p i hi hp => by
        have hi8 : i < 8 := by simpa using hi
        refine ⟨by simp [hp], ?_⟩
        rw [List.getElem_range]
        exact s8_round C K H hH h i hi8 p hp)
      (fun p hp => by simp (maxDischargeDepth := 20) [VB83_0, vst_some, vgd_true, vgd_false, vgo_nil, vgo_cons, vgo_guard, bwanted_some, vop_p, vop_l, vop_k, vop_n, vnorm_some, vseqc_normal, vseqc_exit, vseqc_ret, vcondc_true, vcondc_false, vexec_dreg, vdgo_nil, vdgo_p, vdgo_l, vdgo_k, vdgo_n, vdgo_gp, vdgo_gl, vdgo_gk, vdgo_gn, vdp_some, vdl_some, vdk_some, vdn_some, vdw_true, vdw_false, room_zero, room_put, get_room, next_room, get_hide, hide_zero, vexec_skip, vexec_exit, vexec_ret, vexec_reg, vexec_seq, vexec_cond, vexec_block, vexec_loop, blockO_exit, blockO_normal, blockO_ret, vfin_some, vend_normal, vend_ret, vbody_eq, outO_normal, outO_exit, outO_ret, vround_eq, vkeep_false, bkeep_cons, bkeep_nil, bput_some, bput_none, look_cons, look_nil, AOp.sub, POp.sub, LOp.sub, KOp.sub, NOp.sub, AX.sub, AX.subO, AX.ev, vP, vL, vK, vN, vElems, vElemSize, aP, aL, aK, aN, cB_add, cB_sub, cB_mul, cB_eql, cB_neq, cB_lss, cB_leq, cB_gtr, cB_geq, cB_xor, cB_and, cB_or, cS_eql, cS_neq, cS_lss, cS_leq, cS_gtr, cS_geq, aLoad, aBytesStr, aElems, aElemSize, Mk.val, next_push, next_put, get_push, get_put, Heap.read, List.replicate, List.replicate_succ, start, vRes, vResL, vResults, List.headD, vfrz_some, vexit_eq, vexit1_frozen, vexit1_gc, vexit2_some, solV, solL, solz_succ, solz_zero, solF_some, sol1, List.tail_cons, List.tail_nil, frzL_nil, frzL_cons', frzM_some, frz_int, frz_bool, frz_str, frz_nilFunc, frz_undef, frz_list, frz_elem, frz_nilptr, frz_nilmap, frz_fn, frz_ptr, frz_nilslice, frz_func, frz_agg, frz_tuple, frz_slice, frz_acc, frzS_eq, frzTidy_nil, ice_nil, next_ice, get_ice, iceB_some, vAppend, fitsB, aFill, aPart, aUn, AV.cells?, AV.isCell, reps, byteC_def, accB, blkB, fr1, List.drop_succ_cons, List.drop_zero, List.drop_nil, vkeep_true, gc, gcIds, reach, grow, idsOfL, idsOf, ddup, gcPush, gcTidy, zipKeep, renL, ren, renId, ixOf, cellsOf, cut_zero, cut_p1, cut_p2, cut_p3, cut_p4, cut_app, cut_app0, cut_app1, cut_push, cut_put_lt, cut_put_ge, cut_ice, new_lt, new_lt2, new_lt3, new_lt4, new_le2, new_le3, new_le4, eqn_a, eqn_b, eqn_c, eqn_d, eqn_e, eqn_f, next_cut, get_cut, put_put, idsOfL_append, renL_append, idsOfL_bytes, idsOfL_strs, idsOfL_ints, renL_bytes, renL_strs, renL_ints, frzL_bytes, frzL_strs, frzL_ints, frzL_drop, frzL_take, idsOfL_drop, idsOfL_take, renL_drop, renL_take, toBytes_map, toBytes_drop, toBytes_take, toBytes_td, idsOf_byteC, ren_byteC, frz_byteC, next_empty, hH, cut_self _ hH, ice_new hH]) (List.range 8) 0 K [] rfl (Nat.zero_le _) rfl (by simp; omega)
  rw [e] at this
  exact this

theorem sum8_spec {kn K d : Nat} (hk : isKn kn = true) (hK : 1099511627776 < K) (fr : Fr) (H : Heap) (hH : H.Ok) (s : List UInt8) (ex : Bool) (hs : s.length ≤ 1099511627776) :
    vcallB (vcall kn vtab K (d + 1)) vtab K fr 83 [.list 1 s.length (s.map byteC) ex] H = some (.list 1 8 ((sum8 s).map byteC) false, H) := by
  rw [body_bare rfl rfl]
  have c1 := fun fr H args => call_of (K := K) (d := d) (fr := fr) (args := args) (H := H) hk (f := 118) rfl rfl
  have h1 := fun fr H hH ex => sum_spec (C := vcall kn vtab K d) hK fr H hH [s] ex (by simp) (by simpa using hs)
  have h2 := s8_loop (vcall kn vtab K (d + 1)) K (by omega) H hH (sumOf [s])
  have hl : ((List.range 8).map (sByte (sumOf [s]))).length = 8 := by simp
  have tb := toBytes_map s
  unfold sum8
  generalize (List.range 8).map (sByte (sumOf [s])) = B at *
  simp only [accB, blkB, fr1, hl, List.length_nil, List.map_nil, List.length_cons, List.map_cons, Nat.zero_add] at h1 h2
  have ht : List.take 8 (B.map byteC) = B.map byteC := List.take_of_length_le (by simp [hl])
  have hbl : (B.map byteC).length = 8 := by simp [hl]
  simp (maxDischargeDepth := 20) [VF83, vst_some, vgd_true, vgd_false, vgo_nil, vgo_cons, vgo_guard, bwanted_some, vop_p, vop_l, vop_k, vop_n, vnorm_some, vseqc_normal, vseqc_exit, vseqc_ret, vcondc_true, vcondc_false, vexec_dreg, vdgo_nil, vdgo_p, vdgo_l, vdgo_k, vdgo_n, vdgo_gp, vdgo_gl, vdgo_gk, vdgo_gn, vdp_some, vdl_some, vdk_some, vdn_some, vdw_true, vdw_false, room_zero, room_put, get_room, next_room, get_hide, hide_zero, vexec_skip, vexec_exit, vexec_ret, vexec_reg, vexec_seq, vexec_cond, vexec_block, vexec_loop, blockO_exit, blockO_normal, blockO_ret, vfin_some, vend_normal, vend_ret, vbody_eq, outO_normal, outO_exit, outO_ret, vround_eq, vkeep_false, bkeep_cons, bkeep_nil, bput_some, bput_none, look_cons, look_nil, AOp.sub, POp.sub, LOp.sub, KOp.sub, NOp.sub, AX.sub, AX.subO, AX.ev, vP, vL, vK, vN, vElems, vElemSize, aP, aL, aK, aN, cB_add, cB_sub, cB_mul, cB_eql, cB_neq, cB_lss, cB_leq, cB_gtr, cB_geq, cB_xor, cB_and, cB_or, cS_eql, cS_neq, cS_lss, cS_leq, cS_gtr, cS_geq, aLoad, aBytesStr, aElems, aElemSize, Mk.val, next_push, next_put, get_push, get_put, Heap.read, List.replicate, List.replicate_succ, start, vRes, vResL, vResults, List.headD, vfrz_some, vexit_eq, vexit1_frozen, vexit1_gc, vexit2_some, solV, solL, solz_succ, solz_zero, solF_some, sol1, List.tail_cons, List.tail_nil, frzL_nil, frzL_cons', frzM_some, frz_int, frz_bool, frz_str, frz_nilFunc, frz_undef, frz_list, frz_elem, frz_nilptr, frz_nilmap, frz_fn, frz_ptr, frz_nilslice, frz_func, frz_agg, frz_tuple, frz_slice, frz_acc, frzS_eq, frzTidy_nil, ice_nil, next_ice, get_ice, iceB_some, vAppend, fitsB, aFill, aPart, aUn, AV.cells?, AV.isCell, reps, byteC_def, accB, blkB, fr1, List.drop_succ_cons, List.drop_zero, List.drop_nil, vkeep_true, gc, gcIds, reach, grow, idsOfL, idsOf, ddup, gcPush, gcTidy, zipKeep, renL, ren, renId, ixOf, cellsOf, cut_zero, cut_p1, cut_p2, cut_p3, cut_p4, cut_app, cut_app0, cut_app1, cut_push, cut_put_lt, cut_put_ge, cut_ice, new_lt, new_lt2, new_lt3, new_lt4, new_le2, new_le3, new_le4, eqn_a, eqn_b, eqn_c, eqn_d, eqn_e, eqn_f, next_cut, get_cut, put_put, idsOfL_append, renL_append, idsOfL_bytes, idsOfL_strs, idsOfL_ints, renL_bytes, renL_strs, renL_ints, frzL_bytes, frzL_strs, frzL_ints, frzL_drop, frzL_take, idsOfL_drop, idsOfL_take, renL_drop, renL_take, toBytes_map, toBytes_drop, toBytes_take, toBytes_td, idsOf_byteC, ren_byteC, frz_byteC, next_empty, loadOk, ofList, isList, bornL, bornX, bornXO, bornOf, bornPut_some, bornPut_none, bornP, known, knownL, AV.same, AV.sameL, List.all_cons, List.all_nil, List.drop_zero, List.isEmpty_cons, List.isEmpty_nil, thawed, c1, h1, h2, tb, ht, hl, hbl, ok_push, ok_ice, hH, cut_self _ hH, ice_new hH]

end Go.Proofs.Ytachollgbplikaa
