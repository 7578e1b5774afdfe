/- frame.Lay, told as one's own (modes3.txt). -/
import Derived.Test.YtachollgbplikaaQLayDef
set_option linter.all false
set_option linter.unusedSimpArgs false
namespace Go.Proofs.Ytachollgbplikaa

theorem layA_round {kn K d : Nat} (hk : isKn kn = true) (hK : 1099511627776 < K) (H : Heap) (hH : H.Ok) (L : List (List UInt8)) (e' : Bool) (hL : L.length ≤ 8) (hr : ∀ r ∈ L, r.length ≤ 200) (i : Nat) (hi : i < L.length) (out : List UInt8) (ho : out.length ≤ 1073741824) :
    VR23_0 (vcall kn vtab K (d + 2 + 1)) K (fr1 H) ([(5, accB H out), (10, lstE L e'), (11, .int .i64 L.length), (12, .int .i64 i)], blkB H out) =
      some (.inl ([(5, accB H (layStep out L[i])), (10, lstE L e'), (11, .int .i64 L.length), (12, .int .i64 (i + 1 : Nat))], blkB H (layStep out L[i]))) := by
  have hz := hr _ (List.getElem_mem hi)
  have c1 := fun fr H args => call_of (K := K) (d := d + 2) (fr := fr) (args := args) (H := H) hk (f := 82) rfl rfl
  have c2 := fun fr H args => call_of (K := K) (d := d + 2) (fr := fr) (args := args) (H := H) hk (f := 83) rfl rfl
  have c3 := fun fr H args => call_of (K := K) (d := d + 2) (fr := fr) (args := args) (H := H) hk (f := 81) rfl rfl
  have h1 := fun fr H hH ex => put_spec (K := K) (d := d + 1) hk hK fr H hH out false [((L[i].length : Nat) : Int)] ex (by simp; omega)
  rw [putOf_one out (by omega)] at h1
  have h2 := fun fr H hH => sum8_spec (K := K) (d := d + 1) hk hK fr H hH L[i] false (by omega)
  have hP := encN_len L[i].length (by
    have : (128 : Nat) ^ 9 = 9223372036854775808 := by decide
    omega)
  have h8 := sum8_len L[i]
  have h3 := fun fr H hH ex => concat_spec (K := K) (d := d + 1) hk hK fr H hH [(out ++ encN L[i].length, false), (sum8 L[i], false), (L[i], false)] ex (by simp) (by simp only [catL, List.flatMap_cons, List.flatMap_nil, List.append_nil, List.length_append, h8]; omega)
  have hcat : catL [(out ++ encN L[i].length, false), (sum8 L[i], false), (L[i], false)] = layStep out L[i] := by simp [catL, layStep]
  rw [hcat] at h3
  have d1 := idsOfL_lst L
  have d2 := fun m q => renL_lst m q L
  have d3 := fun H n e => frzL_lst H n e L
  have hwr : IntKind.i64.wrap ((i : Int) + 1) = (i : Int) + 1 := by rw [wrap_i64] <;> omega
  have fzl : ∀ H k e, frz H (k + 1) e (lst L[i]) = some (lst L[i], []) := fun _ _ _ => rfl
  have hob := take_map byteC out
  have hpb := take_map byteC (out ++ encN L[i].length)
  have hlb := take_map byteC (layStep out L[i])
  generalize layStep out L[i] = Y at *
  generalize out ++ encN L[i].length = P at *
  generalize hS : sum8 L[i] = S at *
  have hs8 := take_map byteC S
  rw [h8] at hs8
  simp only [lP, pC, accB, blkB, List.map_cons, List.map_nil, List.length_cons, List.length_nil, Nat.zero_add, Nat.reduceAdd, h8] at h1 h2 h3
  simp (maxDischargeDepth := 20) [VB23_0, vst_some, vgd_true, vgd_false, vgo_nil, vgo_cons, vgo_guard, bwanted_some, vop_p, vop_l, vop_k, vop_n, vnorm_some, vseqc_normal, vseqc_exit, vseqc_ret, vcondc_true, vcondc_false, vexec_dreg, vdgo_nil, vdgo_p, vdgo_l, vdgo_k, vdgo_n, vdgo_gp, vdgo_gl, vdgo_gk, vdgo_gn, vdp_some, vdl_some, vdk_some, vdn_some, vdw_true, vdw_false, room_zero, room_put, get_room, next_room, get_hide, hide_zero, vexec_skip, vexec_exit, vexec_ret, vexec_reg, vexec_seq, vexec_cond, vexec_block, vexec_loop, blockO_exit, blockO_normal, blockO_ret, vfin_some, vend_normal, vend_ret, vbody_eq, outO_normal, outO_exit, outO_ret, vround_eq, vkeep_false, bkeep_cons, bkeep_nil, bput_some, bput_none, look_cons, look_nil, AOp.sub, POp.sub, LOp.sub, KOp.sub, NOp.sub, AX.sub, AX.subO, AX.ev, vP, vL, vK, vN, vElems, vElemSize, aP, aL, aK, aN, cB_add, cB_sub, cB_mul, cB_eql, cB_neq, cB_lss, cB_leq, cB_gtr, cB_geq, cB_xor, cB_and, cB_or, cS_eql, cS_neq, cS_lss, cS_leq, cS_gtr, cS_geq, aLoad, aBytesStr, aElems, aElemSize, Mk.val, next_push, next_put, get_push, get_put, Heap.read, List.replicate, List.replicate_succ, start, vRes, vResL, vResults, List.headD, vfrz_some, vexit_eq, vexit1_frozen, vexit1_gc, vexit2_some, solV, solL, solz_succ, solz_zero, solF_some, sol1, List.tail_cons, List.tail_nil, frzL_nil, frzL_cons', frzM_some, frz_int, frz_bool, frz_str, frz_nilFunc, frz_undef, frz_list, frz_elem, frz_nilptr, frz_nilmap, frz_fn, frz_ptr, frz_nilslice, frz_func, frz_agg, frz_tuple, frz_slice, frz_acc, frzS_eq, frzTidy_nil, ice_nil, next_ice, get_ice, iceB_some, vAppend, fitsB, aFill, aPart, aUn, AV.cells?, AV.isCell, reps, byteC_def, accB, blkB, fr1, List.drop_succ_cons, List.drop_zero, List.drop_nil, vkeep_true, gc, gcIds, reach, grow, idsOfL, idsOf, ddup, gcPush, gcTidy, zipKeep, renL, ren, renId, ixOf, cellsOf, cut_zero, cut_p1, cut_p2, cut_p3, cut_p4, cut_app, cut_app0, cut_app1, cut_push, cut_put_lt, cut_put_ge, cut_ice, new_lt, new_lt2, new_lt3, new_lt4, new_le2, new_le3, new_le4, eqn_a, eqn_b, eqn_c, eqn_d, eqn_e, eqn_f, next_cut, get_cut, put_put, idsOfL_append, renL_append, idsOfL_bytes, idsOfL_strs, idsOfL_ints, renL_bytes, renL_strs, renL_ints, frzL_bytes, frzL_strs, frzL_ints, frzL_drop, frzL_take, idsOfL_drop, idsOfL_take, renL_drop, renL_take, toBytes_map, toBytes_drop, toBytes_take, toBytes_td, idsOf_byteC, ren_byteC, frz_byteC, next_empty, c1, c2, c3, h1, h2, h3, hi, hwr, fzl, frzS_t, frzT_some, hob, hpb, hlb, hs8, d1, d2, d3, ok_push, ok_ice, hH, cut_self _ hH, ice_new hH]

theorem layA_spec {kn K d : Nat} (hk : isKn kn = true) (hK : 1099511627776 < K) (fr : Fr) (H : Heap) (hH : H.Ok) (b : List UInt8) (ex : Bool) (hb : b.length ≤ 16777216) (L : List (List UInt8)) (e' : Bool) (hL : L.length ≤ 8) (hr : ∀ r ∈ L, r.length ≤ 200) :
    vcallB (vcall kn vtab K (d + 2 + 1)) vtab K fr 23 [.list 1 b.length (b.map byteC) ex, lstE L e'] H = some (accB H (layOf b L), blkB H (layOf b L)) := by
  rw [body_bare rfl rfl]
  have h1 : VU23_0 (vcall kn vtab K (d + 2 + 1)) K (fr1 H) K ([(5, accB H b), (10, lstE L e'), (11, .int .i64 L.length), (12, .int .i64 0)], blkB H b) = some (.exit 0, [(5, accB H (L.foldl layStep b))], blkB H (L.foldl layStep b)) :=
    vrun_list (L := L) (st := fun out i => ([(5, accB H out), (10, lstE L e'), (11, .int .i64 L.length), (12, .int .i64 i)], blkB H out)) (step := layStep) (fin := fun out => (.exit 0, [(5, accB H out)], blkB H out))
      (fun out i => out.length ≤ 16777216 + 217 * i ∧ i ≤ 8)
      (fun out i hi ho => by
        have := layStep_len out L[i] (hr _ (List.getElem_mem hi))
        refine ⟨⟨by omega, by omega⟩, ?_⟩
        exact layA_round (d := d) hk hK H hH L e' hL hr i hi out (by omega))
      (fun out ho => by
        have d1 := idsOfL_lst L
        have d2 := fun m q => renL_lst m q L
        have d3 := fun H n e => frzL_lst H n e L
        simp (maxDischargeDepth := 20) [VB23_0, vst_some, vgd_true, vgd_false, vgo_nil, vgo_cons, vgo_guard, bwanted_some, vop_p, vop_l, vop_k, vop_n, vnorm_some, vseqc_normal, vseqc_exit, vseqc_ret, vcondc_true, vcondc_false, vexec_dreg, vdgo_nil, vdgo_p, vdgo_l, vdgo_k, vdgo_n, vdgo_gp, vdgo_gl, vdgo_gk, vdgo_gn, vdp_some, vdl_some, vdk_some, vdn_some, vdw_true, vdw_false, room_zero, room_put, get_room, next_room, get_hide, hide_zero, vexec_skip, vexec_exit, vexec_ret, vexec_reg, vexec_seq, vexec_cond, vexec_block, vexec_loop, blockO_exit, blockO_normal, blockO_ret, vfin_some, vend_normal, vend_ret, vbody_eq, outO_normal, outO_exit, outO_ret, vround_eq, vkeep_false, bkeep_cons, bkeep_nil, bput_some, bput_none, look_cons, look_nil, AOp.sub, POp.sub, LOp.sub, KOp.sub, NOp.sub, AX.sub, AX.subO, AX.ev, vP, vL, vK, vN, vElems, vElemSize, aP, aL, aK, aN, cB_add, cB_sub, cB_mul, cB_eql, cB_neq, cB_lss, cB_leq, cB_gtr, cB_geq, cB_xor, cB_and, cB_or, cS_eql, cS_neq, cS_lss, cS_leq, cS_gtr, cS_geq, aLoad, aBytesStr, aElems, aElemSize, Mk.val, next_push, next_put, get_push, get_put, Heap.read, List.replicate, List.replicate_succ, start, vRes, vResL, vResults, List.headD, vfrz_some, vexit_eq, vexit1_frozen, vexit1_gc, vexit2_some, solV, solL, solz_succ, solz_zero, solF_some, sol1, List.tail_cons, List.tail_nil, frzL_nil, frzL_cons', frzM_some, frz_int, frz_bool, frz_str, frz_nilFunc, frz_undef, frz_list, frz_elem, frz_nilptr, frz_nilmap, frz_fn, frz_ptr, frz_nilslice, frz_func, frz_agg, frz_tuple, frz_slice, frz_acc, frzS_eq, frzTidy_nil, ice_nil, next_ice, get_ice, iceB_some, vAppend, fitsB, aFill, aPart, aUn, AV.cells?, AV.isCell, reps, byteC_def, accB, blkB, fr1, List.drop_succ_cons, List.drop_zero, List.drop_nil, vkeep_true, gc, gcIds, reach, grow, idsOfL, idsOf, ddup, gcPush, gcTidy, zipKeep, renL, ren, renId, ixOf, cellsOf, cut_zero, cut_p1, cut_p2, cut_p3, cut_p4, cut_app, cut_app0, cut_app1, cut_push, cut_put_lt, cut_put_ge, cut_ice, new_lt, new_lt2, new_lt3, new_lt4, new_le2, new_le3, new_le4, eqn_a, eqn_b, eqn_c, eqn_d, eqn_e, eqn_f, next_cut, get_cut, put_put, idsOfL_append, renL_append, idsOfL_bytes, idsOfL_strs, idsOfL_ints, renL_bytes, renL_strs, renL_ints, frzL_bytes, frzL_strs, frzL_ints, frzL_drop, frzL_take, idsOfL_drop, idsOfL_take, renL_drop, renL_take, toBytes_map, toBytes_drop, toBytes_take, toBytes_td, idsOf_byteC, ren_byteC, frz_byteC, next_empty, d1, d2, d3, ok_push, hH, cut_self _ hH, ice_new hH]) L 0 K b rfl (Nat.zero_le _) ⟨by omega, by omega⟩ (by omega)
  rw [show L.foldl layStep b = layOf b L from rfl] at h1
  have c0 := fun fr => clone_at (K := K) (d := d + 2) hk fr H b ex (by omega)
  have c1 := fun fr H b n => clip_at (K := K) (d := d + 2) hk fr H b n
  generalize layOf b L = Y at *
  have d1 := idsOfL_lst L
  have d2 := fun m q => renL_lst m q L
  have d3 := fun H n e => frzL_lst H n e L
  have hb0 := take_map byteC b
  simp only [fr1, accB, blkB] at h1
  simp (maxDischargeDepth := 20) [VF23, vst_some, vgd_true, vgd_false, vgo_nil, vgo_cons, vgo_guard, bwanted_some, vop_p, vop_l, vop_k, vop_n, vnorm_some, vseqc_normal, vseqc_exit, vseqc_ret, vcondc_true, vcondc_false, vexec_dreg, vdgo_nil, vdgo_p, vdgo_l, vdgo_k, vdgo_n, vdgo_gp, vdgo_gl, vdgo_gk, vdgo_gn, vdp_some, vdl_some, vdk_some, vdn_some, vdw_true, vdw_false, room_zero, room_put, get_room, next_room, get_hide, hide_zero, vexec_skip, vexec_exit, vexec_ret, vexec_reg, vexec_seq, vexec_cond, vexec_block, vexec_loop, blockO_exit, blockO_normal, blockO_ret, vfin_some, vend_normal, vend_ret, vbody_eq, outO_normal, outO_exit, outO_ret, vround_eq, vkeep_false, bkeep_cons, bkeep_nil, bput_some, bput_none, look_cons, look_nil, AOp.sub, POp.sub, LOp.sub, KOp.sub, NOp.sub, AX.sub, AX.subO, AX.ev, vP, vL, vK, vN, vElems, vElemSize, aP, aL, aK, aN, cB_add, cB_sub, cB_mul, cB_eql, cB_neq, cB_lss, cB_leq, cB_gtr, cB_geq, cB_xor, cB_and, cB_or, cS_eql, cS_neq, cS_lss, cS_leq, cS_gtr, cS_geq, aLoad, aBytesStr, aElems, aElemSize, Mk.val, next_push, next_put, get_push, get_put, Heap.read, List.replicate, List.replicate_succ, start, vRes, vResL, vResults, List.headD, vfrz_some, vexit_eq, vexit1_frozen, vexit1_gc, vexit2_some, solV, solL, solz_succ, solz_zero, solF_some, sol1, List.tail_cons, List.tail_nil, frzL_nil, frzL_cons', frzM_some, frz_int, frz_bool, frz_str, frz_nilFunc, frz_undef, frz_list, frz_elem, frz_nilptr, frz_nilmap, frz_fn, frz_ptr, frz_nilslice, frz_func, frz_agg, frz_tuple, frz_slice, frz_acc, frzS_eq, frzTidy_nil, ice_nil, next_ice, get_ice, iceB_some, vAppend, fitsB, aFill, aPart, aUn, AV.cells?, AV.isCell, reps, byteC_def, accB, blkB, fr1, List.drop_succ_cons, List.drop_zero, List.drop_nil, vkeep_true, gc, gcIds, reach, grow, idsOfL, idsOf, ddup, gcPush, gcTidy, zipKeep, renL, ren, renId, ixOf, cellsOf, cut_zero, cut_p1, cut_p2, cut_p3, cut_p4, cut_app, cut_app0, cut_app1, cut_push, cut_put_lt, cut_put_ge, cut_ice, new_lt, new_lt2, new_lt3, new_lt4, new_le2, new_le3, new_le4, eqn_a, eqn_b, eqn_c, eqn_d, eqn_e, eqn_f, next_cut, get_cut, put_put, idsOfL_append, renL_append, idsOfL_bytes, idsOfL_strs, idsOfL_ints, renL_bytes, renL_strs, renL_ints, frzL_bytes, frzL_strs, frzL_ints, frzL_drop, frzL_take, idsOfL_drop, idsOfL_take, renL_drop, renL_take, toBytes_map, toBytes_drop, toBytes_take, toBytes_td, idsOf_byteC, ren_byteC, frz_byteC, next_empty, c0, c1, h1, hb0, d1, d2, d3, ok_push, hH, cut_self _ hH, ice_new hH]

end Go.Proofs.Ytachollgbplikaa
