/- session: OfAll. -/
import Derived.Test.YteibgagdnidojaaQSess3
set_option linter.all false
set_option linter.unusedSimpArgs false
namespace Go.Proofs.Yteibgagdnidojaa

def zeroS : List Sx := [⟨0, 0, 0, []⟩, ⟨0, 0, 0, []⟩, ⟨0, 0, 0, []⟩, ⟨0, 0, 0, []⟩]
def ofT (l : List Sx) : List Sx := l.foldl noteT zeroS
theorem ofT_len (l : List Sx) : (ofT l).length = 4 := by
  have : ∀ (l s : List Sx), (l.foldl noteT s).length = s.length := by
    intro l
    induction l with
    | nil => intro s; rfl
    | cons x l ih => intro s; rw [List.foldl_cons, ih, noteT_len]
  rw [ofT, this]; rfl

abbrev blkT (H : Heap) (T : List Sx) : Heap := (H.push (.cells (tbl zeroS) false false)).push (.cells (tbl T) false false)

set_option maxRecDepth 20000 in
set_option maxHeartbeats 4000000 in
theorem of_round {kn K d : Nat} (hk : isKn kn = true) (H : Heap) (hH : H.Ok) (l : List Sx) (ex : Bool) (hl : l.length ≤ 1099511627776) (i : Nat) (hi : i < l.length) (T : List Sx) (hT : T.length = 4) :
    VR43_0 (vcall kn vtab K (d + 1)) K (fr1 H) ([(2, .ptr (some (H.next, 0))), (3, .ptr (some (H.next + 1, 0))), (6, .list 4 l.length (tbl l) ex), (7, .int .i64 l.length), (8, .int .i64 i)], blkT H T) =
      some (.inl ([(2, .ptr (some (H.next, 0))), (3, .ptr (some (H.next + 1, 0))), (6, .list 4 l.length (tbl l) ex), (7, .int .i64 l.length), (8, .int .i64 (i + 1 : Nat))], blkT H (noteT T l[i]))) := by
  have hd := tbl_drop l i hi
  generalize l[i] = x at *
  generalize tbl (l.drop (i + 1)) = R at hd
  have hwr : IntKind.i64.wrap ((i : Int) + 1) = (i : Int) + 1 := by rw [wrap_i64] <;> omega
  have c1 := fun fr H args => call_of (K := K) (d := d) (fr := fr) (args := args) (H := H) hk (f := 39) rfl rfl
  have h1 := fun fr H hH b hb hw => note_spec (C := vcall kn vtab K d) (K := K) fr H hH b T hT false hb hw x
  generalize mayN T x = m at *
  generalize noteT T x = T' at *
  have f1 := idsOfL_tbl l
  have f2 := fun m p => renL_tbl m p l
  have f3 := fun H n e => frzL_tbl H n e l
  have g1 := idsOfL_tbl T
  have g2 := fun m q => renL_tbl m q T
  have g3 := fun H n e => frzL_tbl H n e T
  have k1 := idsOfL_tbl T'
  have k2 := fun m q => renL_tbl m q T'
  have k3 := fun H n e => frzL_tbl H n e T'
  have z1 := idsOfL_tbl zeroS
  have z2 := fun m q => renL_tbl m q zeroS
  have z3 := fun H n e => frzL_tbl H n e zeroS
  obtain ⟨c, q, w, v⟩ := x
  simp only [sxC, List.cons_append, List.nil_append] at hd h1
  simp (maxDischargeDepth := 20) [VB43_0, vst_some, vgd_true, vgd_false, vgo_nil, vgo_cons, vgo_guard, bwanted_some, vop_p, vop_l, vop_k, vop_n, vnorm_some, vseqc_normal, vseqc_exit, vseqc_ret, vcondc_true, vcondc_false, vexec_dreg, vdgo_nil, vdgo_p, vdgo_l, vdgo_k, vdgo_n, vdgo_gp, vdgo_gl, vdgo_gk, vdgo_gn, vdp_some, vdl_some, vdk_some, vdn_some, vdw_true, vdw_false, room_zero, room_put, get_room, next_room, get_hide, hide_zero, vexec_skip, vexec_exit, vexec_ret, vexec_reg, vexec_seq, vexec_cond, vexec_block, vexec_loop, blockO_exit, blockO_normal, blockO_ret, vfin_some, vend_normal, vend_ret, vbody_eq, outO_normal, outO_exit, outO_ret, vround_eq, vkeep_false, bkeep_cons, bkeep_nil, bput_some, bput_none, look_cons, look_nil, AOp.sub, POp.sub, LOp.sub, KOp.sub, NOp.sub, AX.sub, AX.subO, AX.ev, vP, vL, vK, vN, vElems, vElemSize, aP, aL, aK, aN, cB_add, cB_sub, cB_mul, cB_eql, cB_neq, cB_lss, cB_leq, cB_gtr, cB_geq, cB_xor, cB_and, cB_or, cS_eql, cS_neq, cS_lss, cS_leq, cS_gtr, cS_geq, aLoad, aBytesStr, aElems, aElemSize, Mk.val, next_push, next_put, get_push, get_put, Heap.read, List.replicate, List.replicate_succ, start, vRes, vResL, vResults, List.headD, vfrz_some, vexit_eq, vexit1_frozen, vexit1_gc, vexit2_some, solV, solL, solz_succ, solz_zero, solF_some, sol1, List.tail_cons, List.tail_nil, frzL_nil, frzL_cons', frzM_some, frz_int, frz_bool, frz_str, frz_nilFunc, frz_undef, frz_list, frz_elem, frz_nilptr, frz_nilmap, frz_fn, frz_ptr, frz_nilslice, frz_func, frz_agg, frz_tuple, frz_slice, frz_acc, frzS_eq, frzTidy_nil, ice_nil, next_ice, get_ice, iceB_some, vAppend, fitsB, aFill, aPart, aUn, AV.cells?, AV.isCell, reps, byteC_def, accB, blkB, fr1, List.drop_succ_cons, List.drop_zero, List.drop_nil, vkeep_true, gc, gcIds, reach, grow, idsOfL, idsOf, ddup, gcPush, gcTidy, zipKeep, renL, ren, renId, ixOf, cellsOf, cut_zero, cut_p1, cut_p2, cut_p3, cut_p4, cut_app, cut_app0, cut_app1, cut_push, cut_put_lt, cut_put_ge, cut_ice, new_lt, new_lt2, new_lt3, new_lt4, new_le2, new_le3, new_le4, eqn_a, eqn_b, eqn_c, eqn_d, eqn_e, eqn_f, next_cut, get_cut, put_put, idsOfL_append, renL_append, idsOfL_bytes, idsOfL_strs, idsOfL_ints, renL_bytes, renL_strs, renL_ints, frzL_bytes, frzL_strs, frzL_ints, frzL_drop, frzL_take, idsOfL_drop, idsOfL_take, renL_drop, renL_take, toBytes_map, toBytes_drop, toBytes_take, toBytes_td, idsOf_byteC, ren_byteC, frz_byteC, next_empty, frzTidy, okStore, aStore, ptrOk, Heap.write, aEqKs, aEqK, aEqP, c1, h1, hd, hi, hwr, f1, f2, f3, g1, g2, g3, k1, k2, k3, z1, z2, z3, ok_push, ok_put, hH, cut_self _ hH, ice_new hH]

theorem of_loop {kn K d : Nat} (hk : isKn kn = true) (hK : 1099511627776 < K) (H : Heap) (hH : H.Ok) (l : List Sx) (ex : Bool) (hl : l.length ≤ 1099511627776) :
    VU43_0 (vcall kn vtab K (d + 1)) K (fr1 H) K ([(2, .ptr (some (H.next, 0))), (3, .ptr (some (H.next + 1, 0))), (6, .list 4 l.length (tbl l) ex), (7, .int .i64 l.length), (8, .int .i64 0)], blkT H zeroS) = some (.exit 0, [(2, .ptr (some (H.next, 0))), (3, .ptr (some (H.next + 1, 0)))], blkT H (ofT l)) :=
  vrun_list (body := vexec (vcall kn vtab K (d + 1)) K (fr1 H) _ VB43_0) (L := l) (st := fun T i => ([(2, .ptr (some (H.next, 0))), (3, .ptr (some (H.next + 1, 0))), (6, .list 4 l.length (tbl l) ex), (7, .int .i64 l.length), (8, .int .i64 i)], blkT H T)) (step := noteT) (fin := fun T => (.exit 0, [(2, .ptr (some (H.next, 0))), (3, .ptr (some (H.next + 1, 0)))], blkT H T))
    (fun T _ => T.length = 4)
    (fun T i hi hT => ⟨by rw [noteT_len]; exact hT, of_round hk H hH l ex hl i hi T hT⟩)
    (fun T _ => by
      have f1 := idsOfL_tbl l
      have f2 := fun m p => renL_tbl m p l
      have f3 := fun H n e => frzL_tbl H n e l
      have g1 := idsOfL_tbl T
      have g2 := fun m q => renL_tbl m q T
      have g3 := fun H n e => frzL_tbl H n e T
      have z1 := idsOfL_tbl zeroS
      have z2 := fun m q => renL_tbl m q zeroS
      have z3 := fun H n e => frzL_tbl H n e zeroS
      simp (maxDischargeDepth := 20) [VB43_0, vst_some, vgd_true, vgd_false, vgo_nil, vgo_cons, vgo_guard, bwanted_some, vop_p, vop_l, vop_k, vop_n, vnorm_some, vseqc_normal, vseqc_exit, vseqc_ret, vcondc_true, vcondc_false, vexec_dreg, vdgo_nil, vdgo_p, vdgo_l, vdgo_k, vdgo_n, vdgo_gp, vdgo_gl, vdgo_gk, vdgo_gn, vdp_some, vdl_some, vdk_some, vdn_some, vdw_true, vdw_false, room_zero, room_put, get_room, next_room, get_hide, hide_zero, vexec_skip, vexec_exit, vexec_ret, vexec_reg, vexec_seq, vexec_cond, vexec_block, vexec_loop, blockO_exit, blockO_normal, blockO_ret, vfin_some, vend_normal, vend_ret, vbody_eq, outO_normal, outO_exit, outO_ret, vround_eq, vkeep_false, bkeep_cons, bkeep_nil, bput_some, bput_none, look_cons, look_nil, AOp.sub, POp.sub, LOp.sub, KOp.sub, NOp.sub, AX.sub, AX.subO, AX.ev, vP, vL, vK, vN, vElems, vElemSize, aP, aL, aK, aN, cB_add, cB_sub, cB_mul, cB_eql, cB_neq, cB_lss, cB_leq, cB_gtr, cB_geq, cB_xor, cB_and, cB_or, cS_eql, cS_neq, cS_lss, cS_leq, cS_gtr, cS_geq, aLoad, aBytesStr, aElems, aElemSize, Mk.val, next_push, next_put, get_push, get_put, Heap.read, List.replicate, List.replicate_succ, start, vRes, vResL, vResults, List.headD, vfrz_some, vexit_eq, vexit1_frozen, vexit1_gc, vexit2_some, solV, solL, solz_succ, solz_zero, solF_some, sol1, List.tail_cons, List.tail_nil, frzL_nil, frzL_cons', frzM_some, frz_int, frz_bool, frz_str, frz_nilFunc, frz_undef, frz_list, frz_elem, frz_nilptr, frz_nilmap, frz_fn, frz_ptr, frz_nilslice, frz_func, frz_agg, frz_tuple, frz_slice, frz_acc, frzS_eq, frzTidy_nil, ice_nil, next_ice, get_ice, iceB_some, vAppend, fitsB, aFill, aPart, aUn, AV.cells?, AV.isCell, reps, byteC_def, accB, blkB, fr1, List.drop_succ_cons, List.drop_zero, List.drop_nil, vkeep_true, gc, gcIds, reach, grow, idsOfL, idsOf, ddup, gcPush, gcTidy, zipKeep, renL, ren, renId, ixOf, cellsOf, cut_zero, cut_p1, cut_p2, cut_p3, cut_p4, cut_app, cut_app0, cut_app1, cut_push, cut_put_lt, cut_put_ge, cut_ice, new_lt, new_lt2, new_lt3, new_lt4, new_le2, new_le3, new_le4, eqn_a, eqn_b, eqn_c, eqn_d, eqn_e, eqn_f, next_cut, get_cut, put_put, idsOfL_append, renL_append, idsOfL_bytes, idsOfL_strs, idsOfL_ints, renL_bytes, renL_strs, renL_ints, frzL_bytes, frzL_strs, frzL_ints, frzL_drop, frzL_take, idsOfL_drop, idsOfL_take, renL_drop, renL_take, toBytes_map, toBytes_drop, toBytes_take, toBytes_td, idsOf_byteC, ren_byteC, frz_byteC, next_empty, frzTidy, okStore, aStore, ptrOk, Heap.write, aEqKs, aEqK, aEqP, f1, f2, f3, g1, g2, g3, z1, z2, z3, ok_push, ok_put, hH, cut_self _ hH, ice_new hH]) l 0 K zeroS rfl (Nat.zero_le _) rfl (by omega)

set_option maxRecDepth 20000 in
set_option maxHeartbeats 4000000 in
theorem of_spec {kn K d : Nat} (hk : isKn kn = true) (hK : 1099511627776 < K) (fr : Fr) (H : Heap) (hH : H.Ok) (l : List Sx) (ex : Bool) (hl : l.length ≤ 1099511627776) :
    vcallB (vcall kn vtab K (d + 1)) vtab K fr 43 [.list 4 l.length (tbl l) ex] H = some (.agg (tbl (ofT l)), H) := by
  rw [body_bare rfl rfl]
  have h1 := of_loop (d := d) hk hK H hH l ex hl
  have hT := ofT_len l
  generalize ofT l = T at *
  have f1 := idsOfL_tbl l
  have f2 := fun m p => renL_tbl m p l
  have f3 := fun H n e => frzL_tbl H n e l
  have z : tbl zeroS = [.int .i64 0, .int .i64 0, .int .i64 0, .str [], .int .i64 0, .int .i64 0, .int .i64 0, .str [], .int .i64 0, .int .i64 0, .int .i64 0, .str [], .int .i64 0, .int .i64 0, .int .i64 0, .str []] := rfl
  simp only [blkT, z] at h1
  generalize tbl l = L at *
  match T, hT with
  | [⟨c0, q0, w0, v0⟩, ⟨c1, q1, w1, v1⟩, ⟨c2, q2, w2, v2⟩, ⟨c3, q3, w3, v3⟩], _ =>
    simp only [tbl, List.flatMap_cons, List.flatMap_nil, sxC, List.cons_append, List.nil_append, List.append_nil] at h1 ⊢
    simp (maxDischargeDepth := 20) [VF43, vst_some, vgd_true, vgd_false, vgo_nil, vgo_cons, vgo_guard, bwanted_some, vop_p, vop_l, vop_k, vop_n, vnorm_some, vseqc_normal, vseqc_exit, vseqc_ret, vcondc_true, vcondc_false, vexec_dreg, vdgo_nil, vdgo_p, vdgo_l, vdgo_k, vdgo_n, vdgo_gp, vdgo_gl, vdgo_gk, vdgo_gn, vdp_some, vdl_some, vdk_some, vdn_some, vdw_true, vdw_false, room_zero, room_put, get_room, next_room, get_hide, hide_zero, vexec_skip, vexec_exit, vexec_ret, vexec_reg, vexec_seq, vexec_cond, vexec_block, vexec_loop, blockO_exit, blockO_normal, blockO_ret, vfin_some, vend_normal, vend_ret, vbody_eq, outO_normal, outO_exit, outO_ret, vround_eq, vkeep_false, bkeep_cons, bkeep_nil, bput_some, bput_none, look_cons, look_nil, AOp.sub, POp.sub, LOp.sub, KOp.sub, NOp.sub, AX.sub, AX.subO, AX.ev, vP, vL, vK, vN, vElems, vElemSize, aP, aL, aK, aN, cB_add, cB_sub, cB_mul, cB_eql, cB_neq, cB_lss, cB_leq, cB_gtr, cB_geq, cB_xor, cB_and, cB_or, cS_eql, cS_neq, cS_lss, cS_leq, cS_gtr, cS_geq, aLoad, aBytesStr, aElems, aElemSize, Mk.val, next_push, next_put, get_push, get_put, Heap.read, List.replicate, List.replicate_succ, start, vRes, vResL, vResults, List.headD, vfrz_some, vexit_eq, vexit1_frozen, vexit1_gc, vexit2_some, solV, solL, solz_succ, solz_zero, solF_some, sol1, List.tail_cons, List.tail_nil, frzL_nil, frzL_cons', frzM_some, frz_int, frz_bool, frz_str, frz_nilFunc, frz_undef, frz_list, frz_elem, frz_nilptr, frz_nilmap, frz_fn, frz_ptr, frz_nilslice, frz_func, frz_agg, frz_tuple, frz_slice, frz_acc, frzS_eq, frzTidy_nil, ice_nil, next_ice, get_ice, iceB_some, vAppend, fitsB, aFill, aPart, aUn, AV.cells?, AV.isCell, reps, byteC_def, accB, blkB, fr1, List.drop_succ_cons, List.drop_zero, List.drop_nil, vkeep_true, gc, gcIds, reach, grow, idsOfL, idsOf, ddup, gcPush, gcTidy, zipKeep, renL, ren, renId, ixOf, cellsOf, cut_zero, cut_p1, cut_p2, cut_p3, cut_p4, cut_app, cut_app0, cut_app1, cut_push, cut_put_lt, cut_put_ge, cut_ice, new_lt, new_lt2, new_lt3, new_lt4, new_le2, new_le3, new_le4, eqn_a, eqn_b, eqn_c, eqn_d, eqn_e, eqn_f, next_cut, get_cut, put_put, idsOfL_append, renL_append, idsOfL_bytes, idsOfL_strs, idsOfL_ints, renL_bytes, renL_strs, renL_ints, frzL_bytes, frzL_strs, frzL_ints, frzL_drop, frzL_take, idsOfL_drop, idsOfL_take, renL_drop, renL_take, toBytes_map, toBytes_drop, toBytes_take, toBytes_td, idsOf_byteC, ren_byteC, frz_byteC, next_empty, frzTidy, okStore, aStore, ptrOk, Heap.write, aEqKs, aEqK, aEqP, h1, f1, f2, f3, ok_push, ok_put, hH, cut_self _ hH, ice_new hH]

end Go.Proofs.Yteibgagdnidojaa
