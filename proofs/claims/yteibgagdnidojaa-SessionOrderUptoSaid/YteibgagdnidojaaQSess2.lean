/- session: values, notes, lists of them. -/
import Derived.Test.YteibgagdnidojaaQAll
set_option linter.all false
set_option linter.unusedSimpArgs false
namespace Go.Proofs.Yteibgagdnidojaa

def valF (n : Int) : List UInt8 :=
  if n % 6 = 0 then [] else if n % 6 = 1 then [49] else if n % 6 = 2 then [50] else if n % 6 = 3 then [116, 104, 114, 101, 101]
  else if n % 6 = 4 then [115, 105, 120, 116, 101, 101, 110, 32, 98, 121, 116, 101, 115, 32, 105, 116] else [52]

theorem value_spec {kn K d : Nat} (hk : isKn kn = true) (fr : Fr) (H : Heap) (hH : H.Ok) (n : Int) (hn : Rng n) :
    vcallB (vcall kn vtab K (d + 1)) vtab K fr 42 [.int .i64 n] H = some (.str (valF n), H) := by
  rw [body_bare rfl rfl]
  have c1 := fun fr H args => call_of (K := K) (d := d) (fr := fr) (args := args) (H := H) hk (f := 26) rfl rfl
  have h1 := fun fr H hH => pick_spec (C := vcall kn vtab K d) (K := K) fr H hH n 6 (by omega) hn (by omega)
  have h6 : n % 6 = 0 ∨ n % 6 = 1 ∨ n % 6 = 2 ∨ n % 6 = 3 ∨ n % 6 = 4 ∨ n % 6 = 5 := by omega
  unfold valF
  rcases h6 with h | h | h | h | h | h <;> simp (maxDischargeDepth := 20) [VF42, vst_some, vgd_true, vgd_false, vgo_nil, vgo_cons, vgo_guard, bwanted_some, vop_p, vop_l, vop_k, vop_n, vnorm_some, vseqc_normal, vseqc_exit, vseqc_ret, vcondc_true, vcondc_false, vexec_dreg, vdgo_nil, vdgo_p, vdgo_l, vdgo_k, vdgo_n, vdgo_gp, vdgo_gl, vdgo_gk, vdgo_gn, vdp_some, vdl_some, vdk_some, vdn_some, vdw_true, vdw_false, room_zero, room_put, get_room, next_room, get_hide, hide_zero, vexec_skip, vexec_exit, vexec_ret, vexec_reg, vexec_seq, vexec_cond, vexec_block, vexec_loop, blockO_exit, blockO_normal, blockO_ret, vfin_some, vend_normal, vend_ret, vbody_eq, outO_normal, outO_exit, outO_ret, vround_eq, vkeep_false, bkeep_cons, bkeep_nil, bput_some, bput_none, look_cons, look_nil, AOp.sub, POp.sub, LOp.sub, KOp.sub, NOp.sub, AX.sub, AX.subO, AX.ev, vP, vL, vK, vN, vElems, vElemSize, aP, aL, aK, aN, cB_add, cB_sub, cB_mul, cB_eql, cB_neq, cB_lss, cB_leq, cB_gtr, cB_geq, cB_xor, cB_and, cB_or, cS_eql, cS_neq, cS_lss, cS_leq, cS_gtr, cS_geq, aLoad, aBytesStr, aElems, aElemSize, Mk.val, next_push, next_put, get_push, get_put, Heap.read, List.replicate, List.replicate_succ, start, vRes, vResL, vResults, List.headD, vfrz_some, vexit_eq, vexit1_frozen, vexit1_gc, vexit2_some, solV, solL, solz_succ, solz_zero, solF_some, sol1, List.tail_cons, List.tail_nil, frzL_nil, frzL_cons', frzM_some, frz_int, frz_bool, frz_str, frz_nilFunc, frz_undef, frz_list, frz_elem, frz_nilptr, frz_nilmap, frz_fn, frz_ptr, frz_nilslice, frz_func, frz_agg, frz_tuple, frz_slice, frz_acc, frzS_eq, frzTidy_nil, ice_nil, next_ice, get_ice, iceB_some, vAppend, fitsB, aFill, aPart, aUn, AV.cells?, AV.isCell, reps, byteC_def, accB, blkB, fr1, List.drop_succ_cons, List.drop_zero, List.drop_nil, vkeep_true, gc, gcIds, reach, grow, idsOfL, idsOf, ddup, gcPush, gcTidy, zipKeep, renL, ren, renId, ixOf, cellsOf, cut_zero, cut_p1, cut_p2, cut_p3, cut_p4, cut_app, cut_app0, cut_app1, cut_push, cut_put_lt, cut_put_ge, cut_ice, new_lt, new_lt2, new_lt3, new_lt4, new_le2, new_le3, new_le4, eqn_a, eqn_b, eqn_c, eqn_d, eqn_e, eqn_f, next_cut, get_cut, put_put, idsOfL_append, renL_append, idsOfL_bytes, idsOfL_strs, idsOfL_ints, renL_bytes, renL_strs, renL_ints, frzL_bytes, frzL_strs, frzL_ints, frzL_drop, frzL_take, idsOfL_drop, idsOfL_take, renL_drop, renL_take, toBytes_map, toBytes_drop, toBytes_take, toBytes_td, idsOf_byteC, ren_byteC, frz_byteC, next_empty, c1, h1, h, hH, cut_self _ hH, ice_new hH]

theorem ok_room {H : Heap} (h : H.Ok) (n : Nat) : (H.room n).Ok := fun b hb => h b (Nat.le_trans (Nat.le_add_right _ _) hb)

structure Rw where
  c : Int
  q : Int
  w : Int
  v : Int
def rwC (x : Rw) : List AV := [.int .i64 x.c, .int .i64 x.q, .int .i64 x.w, .int .i64 x.v]
def Rw.ok (x : Rw) : Prop := Rng x.c ∧ Rng x.q ∧ Rng x.w ∧ Rng x.v

def sessF (x : Rw) : Sx := ⟨x.c % 7 - 1, if x.q % 13 = 12 then numF (x.q.tdiv 13) else x.q % 12 - 1, x.w % 7, valF x.v⟩

set_option maxRecDepth 20000 in
set_option maxHeartbeats 4000000 in
theorem sess_spec {kn K d : Nat} (hk : isKn kn = true) (fr : Fr) (H : Heap) (hH : H.Ok) (x : Rw) (hx : x.ok) :
    vcallB (vcall kn vtab K (d + 2)) vtab K fr 38 [.agg (rwC x)] H = some (.agg (sxC (sessF x)), H) := by
  rw [body_bare rfl rfl]
  obtain ⟨c, q, w, v⟩ := x
  obtain ⟨hc, hq, hw, hv⟩ := hx
  simp only at hc hq hw hv
  have c1 := fun fr H args => call_of (K := K) (d := d + 1) (fr := fr) (args := args) (H := H) hk (f := 26) rfl rfl
  have c2 := fun fr H args => call_of (K := K) (d := d + 1) (fr := fr) (args := args) (H := H) hk (f := 42) rfl rfl
  have c3 := fun fr H args => call_of (K := K) (d := d + 1) (fr := fr) (args := args) (H := H) hk (f := 77) rfl rfl
  have h1 := fun fr H hH => pick_spec (C := vcall kn vtab K (d + 1)) (K := K) fr H hH c 7 (by omega) hc (by omega)
  have h2 := fun fr H hH => pick_spec (C := vcall kn vtab K (d + 1)) (K := K) fr H hH q 12 (by omega) hq (by omega)
  have h3 := fun fr H hH => pick_spec (C := vcall kn vtab K (d + 1)) (K := K) fr H hH w 7 (by omega) hw (by omega)
  have h4 := fun fr H hH => pick_spec (C := vcall kn vtab K (d + 1)) (K := K) fr H hH q 13 (by omega) hq (by omega)
  have h5 := fun fr H hH => value_spec (K := K) (d := d) hk fr H hH v hv
  have hqq : Rng (q.tdiv 13) := by
    obtain ⟨a, b⟩ := hq
    rcases Int.le_total 0 q with h | h
    · rw [Int.tdiv_eq_ediv_of_nonneg h]; constructor <;> omega
    · obtain ⟨m, rfl⟩ : ∃ m, q = -m := ⟨-q, by omega⟩
      rw [Int.neg_tdiv, Int.tdiv_eq_ediv_of_nonneg (by omega)]; constructor <;> omega
  have h6 := fun fr H hH => num_spec (K := K) (d := d) hk fr H hH (q.tdiv 13) hqq
  have q13 := cB_quo .i64 q 13 (by omega)
  have w0 : IntKind.i64.wrap (q.tdiv 13) = q.tdiv 13 := by obtain ⟨a, b⟩ := hqq; rw [wrap_i64] <;> omega
  have w1 : IntKind.i64.wrap (c % 7 - 1) = c % 7 - 1 := by rw [wrap_i64] <;> omega
  have w2 : IntKind.i64.wrap (q % 12 - 1) = q % 12 - 1 := by rw [wrap_i64] <;> omega
  have x1 : (H.next + 1 + 1 ≤ H.next) = False := eq_false (by omega)
  have x2 : (H.next + 1 + 1 ≤ H.next + 1) = False := eq_false (by omega)
  have x3 : H.get (H.next + 2) = none := hH _ (by omega)
  simp only [rwC, sxC, sessF]
  generalize valF v = V at *
  by_cases h : q % 13 = 12
  · simp (maxDischargeDepth := 20) [VF38, vst_some, vgd_true, vgd_false, vgo_nil, vgo_cons, vgo_guard, bwanted_some, vop_p, vop_l, vop_k, vop_n, vnorm_some, vseqc_normal, vseqc_exit, vseqc_ret, vcondc_true, vcondc_false, vexec_dreg, vdgo_nil, vdgo_p, vdgo_l, vdgo_k, vdgo_n, vdgo_gp, vdgo_gl, vdgo_gk, vdgo_gn, vdp_some, vdl_some, vdk_some, vdn_some, vdw_true, vdw_false, room_zero, room_put, get_room, next_room, get_hide, hide_zero, vexec_skip, vexec_exit, vexec_ret, vexec_reg, vexec_seq, vexec_cond, vexec_block, vexec_loop, blockO_exit, blockO_normal, blockO_ret, vfin_some, vend_normal, vend_ret, vbody_eq, outO_normal, outO_exit, outO_ret, vround_eq, vkeep_false, bkeep_cons, bkeep_nil, bput_some, bput_none, look_cons, look_nil, AOp.sub, POp.sub, LOp.sub, KOp.sub, NOp.sub, AX.sub, AX.subO, AX.ev, vP, vL, vK, vN, vElems, vElemSize, aP, aL, aK, aN, cB_add, cB_sub, cB_mul, cB_eql, cB_neq, cB_lss, cB_leq, cB_gtr, cB_geq, cB_xor, cB_and, cB_or, cS_eql, cS_neq, cS_lss, cS_leq, cS_gtr, cS_geq, aLoad, aBytesStr, aElems, aElemSize, Mk.val, next_push, next_put, get_push, get_put, Heap.read, List.replicate, List.replicate_succ, start, vRes, vResL, vResults, List.headD, vfrz_some, vexit_eq, vexit1_frozen, vexit1_gc, vexit2_some, solV, solL, solz_succ, solz_zero, solF_some, sol1, List.tail_cons, List.tail_nil, frzL_nil, frzL_cons', frzM_some, frz_int, frz_bool, frz_str, frz_nilFunc, frz_undef, frz_list, frz_elem, frz_nilptr, frz_nilmap, frz_fn, frz_ptr, frz_nilslice, frz_func, frz_agg, frz_tuple, frz_slice, frz_acc, frzS_eq, frzTidy_nil, ice_nil, next_ice, get_ice, iceB_some, vAppend, fitsB, aFill, aPart, aUn, AV.cells?, AV.isCell, reps, byteC_def, accB, blkB, fr1, List.drop_succ_cons, List.drop_zero, List.drop_nil, vkeep_true, gc, gcIds, reach, grow, idsOfL, idsOf, ddup, gcPush, gcTidy, zipKeep, renL, ren, renId, ixOf, cellsOf, cut_zero, cut_p1, cut_p2, cut_p3, cut_p4, cut_app, cut_app0, cut_app1, cut_push, cut_put_lt, cut_put_ge, cut_ice, new_lt, new_lt2, new_lt3, new_lt4, new_le2, new_le3, new_le4, eqn_a, eqn_b, eqn_c, eqn_d, eqn_e, eqn_f, next_cut, get_cut, put_put, idsOfL_append, renL_append, idsOfL_bytes, idsOfL_strs, idsOfL_ints, renL_bytes, renL_strs, renL_ints, frzL_bytes, frzL_strs, frzL_ints, frzL_drop, frzL_take, idsOfL_drop, idsOfL_take, renL_drop, renL_take, toBytes_map, toBytes_drop, toBytes_take, toBytes_td, idsOf_byteC, ren_byteC, frz_byteC, next_empty, loadOk, ofList, isList, bornL, bornX, bornXO, bornOf, bornPut_some, bornPut_none, bornP, known, knownL, AV.same, List.all_cons, List.all_nil, List.drop_zero, List.isEmpty_cons, List.isEmpty_nil, thawed, frzTidy, okStore, aStore, ptrOk, Heap.write, aEqKs, aEqK, aEqP, c1, c2, c3, h1, h2, h3, h4, h5, h6, q13, w0, w1, w2, h, x1, x2, x3, ok_room, ok_push, ok_put, hH, cut_self _ hH, ice_new hH]
  · simp (maxDischargeDepth := 20) [VF38, vst_some, vgd_true, vgd_false, vgo_nil, vgo_cons, vgo_guard, bwanted_some, vop_p, vop_l, vop_k, vop_n, vnorm_some, vseqc_normal, vseqc_exit, vseqc_ret, vcondc_true, vcondc_false, vexec_dreg, vdgo_nil, vdgo_p, vdgo_l, vdgo_k, vdgo_n, vdgo_gp, vdgo_gl, vdgo_gk, vdgo_gn, vdp_some, vdl_some, vdk_some, vdn_some, vdw_true, vdw_false, room_zero, room_put, get_room, next_room, get_hide, hide_zero, vexec_skip, vexec_exit, vexec_ret, vexec_reg, vexec_seq, vexec_cond, vexec_block, vexec_loop, blockO_exit, blockO_normal, blockO_ret, vfin_some, vend_normal, vend_ret, vbody_eq, outO_normal, outO_exit, outO_ret, vround_eq, vkeep_false, bkeep_cons, bkeep_nil, bput_some, bput_none, look_cons, look_nil, AOp.sub, POp.sub, LOp.sub, KOp.sub, NOp.sub, AX.sub, AX.subO, AX.ev, vP, vL, vK, vN, vElems, vElemSize, aP, aL, aK, aN, cB_add, cB_sub, cB_mul, cB_eql, cB_neq, cB_lss, cB_leq, cB_gtr, cB_geq, cB_xor, cB_and, cB_or, cS_eql, cS_neq, cS_lss, cS_leq, cS_gtr, cS_geq, aLoad, aBytesStr, aElems, aElemSize, Mk.val, next_push, next_put, get_push, get_put, Heap.read, List.replicate, List.replicate_succ, start, vRes, vResL, vResults, List.headD, vfrz_some, vexit_eq, vexit1_frozen, vexit1_gc, vexit2_some, solV, solL, solz_succ, solz_zero, solF_some, sol1, List.tail_cons, List.tail_nil, frzL_nil, frzL_cons', frzM_some, frz_int, frz_bool, frz_str, frz_nilFunc, frz_undef, frz_list, frz_elem, frz_nilptr, frz_nilmap, frz_fn, frz_ptr, frz_nilslice, frz_func, frz_agg, frz_tuple, frz_slice, frz_acc, frzS_eq, frzTidy_nil, ice_nil, next_ice, get_ice, iceB_some, vAppend, fitsB, aFill, aPart, aUn, AV.cells?, AV.isCell, reps, byteC_def, accB, blkB, fr1, List.drop_succ_cons, List.drop_zero, List.drop_nil, vkeep_true, gc, gcIds, reach, grow, idsOfL, idsOf, ddup, gcPush, gcTidy, zipKeep, renL, ren, renId, ixOf, cellsOf, cut_zero, cut_p1, cut_p2, cut_p3, cut_p4, cut_app, cut_app0, cut_app1, cut_push, cut_put_lt, cut_put_ge, cut_ice, new_lt, new_lt2, new_lt3, new_lt4, new_le2, new_le3, new_le4, eqn_a, eqn_b, eqn_c, eqn_d, eqn_e, eqn_f, next_cut, get_cut, put_put, idsOfL_append, renL_append, idsOfL_bytes, idsOfL_strs, idsOfL_ints, renL_bytes, renL_strs, renL_ints, frzL_bytes, frzL_strs, frzL_ints, frzL_drop, frzL_take, idsOfL_drop, idsOfL_take, renL_drop, renL_take, toBytes_map, toBytes_drop, toBytes_take, toBytes_td, idsOf_byteC, ren_byteC, frz_byteC, next_empty, loadOk, ofList, isList, bornL, bornX, bornXO, bornOf, bornPut_some, bornPut_none, bornP, known, knownL, AV.same, List.all_cons, List.all_nil, List.drop_zero, List.isEmpty_cons, List.isEmpty_nil, thawed, frzTidy, okStore, aStore, ptrOk, Heap.write, aEqKs, aEqK, aEqP, c1, c2, c3, h1, h2, h3, h4, h5, w1, w2, h, x1, x2, x3, ok_room, ok_push, ok_put, hH, cut_self _ hH, ice_new hH]

end Go.Proofs.Yteibgagdnidojaa
