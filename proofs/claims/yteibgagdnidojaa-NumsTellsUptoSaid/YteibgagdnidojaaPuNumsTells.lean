/- NumsTells in V. -/
import Derived.Test.YteibgagdnidojaaQRTake
import Derived.Test.YteibgagdnidojaaQHand
import Derived.Test.YteibgagdnidojaaAm33
set_option linter.all false
set_option linter.unusedSimpArgs false
namespace Go.Proofs.Yteibgagdnidojaa
namespace numsTells

theorem numbers_round {kn K d : Nat} (hk : isKn kn = true) (H : Heap) (hH : H.Ok) (l : List Int) (ex : Bool) (hr : ∀ n ∈ l, Rng n) (i : Nat) (hi : i < l.length) (h12 : i < 12) (p : List Int) (hp : p.length = i) :
    VR70_0 (vcall kn vtab K (d + 2)) K (fr1 H) ([(0, .list 1 l.length (l.map (.int .i64)) ex), (3, accI H p), (4, .int .i64 i)], blkI H p) =
      some (.inl ([(0, .list 1 l.length (l.map (.int .i64)) ex), (3, accI H (p ++ [numF l[i]])), (4, .int .i64 (i + 1 : Nat))], blkI H (p ++ [numF l[i]]))) := by
  have c1 := fun fr H args => call_of (K := K) (d := d + 1) (fr := fr) (args := args) (H := H) hk (f := 77) rfl rfl
  have h1 := fun fr H hH => num_spec (K := K) (d := d) hk fr H hH l[i] (hr _ (List.getElem_mem hi))
  have hLl := List.getElem?_eq_getElem hi
  generalize hLe : l[i] = L at *
  have hwr : IntKind.i64.wrap ((i : Int) + 1) = (i : Int) + 1 := by rw [wrap_i64] <;> omega
  have w3 : (p.length + 1) * 8 ≤ 70368744177664 ∧ p.length + 1 ≤ 70368744177664 := by omega
  have i12 : (i : Int) < 12 := by omega
  simp (maxDischargeDepth := 20) [VB70_0, vst_some, vgd_true, vgd_false, vgo_nil, vgo_cons, vgo_guard, bwanted_some, vop_p, vop_l, vop_k, vop_n, vnorm_some, vseqc_normal, vseqc_exit, vseqc_ret, vcondc_true, vcondc_false, vexec_dreg, vdgo_nil, vdgo_p, vdgo_l, vdgo_k, vdgo_n, vdgo_gp, vdgo_gl, vdgo_gk, vdgo_gn, vdp_some, vdl_some, vdk_some, vdn_some, vdw_true, vdw_false, room_zero, room_put, get_room, next_room, get_hide, hide_zero, vexec_skip, vexec_exit, vexec_ret, vexec_reg, vexec_seq, vexec_cond, vexec_block, vexec_loop, blockO_exit, blockO_normal, blockO_ret, vfin_some, vend_normal, vend_ret, vbody_eq, outO_normal, outO_exit, outO_ret, vround_eq, vkeep_false, bkeep_cons, bkeep_nil, bput_some, bput_none, look_cons, look_nil, AOp.sub, POp.sub, LOp.sub, KOp.sub, NOp.sub, AX.sub, AX.subO, AX.ev, vP, vL, vK, vN, vElems, vElemSize, aP, aL, aK, aN, cB_add, cB_sub, cB_mul, cB_eql, cB_neq, cB_lss, cB_leq, cB_gtr, cB_geq, cB_xor, cB_and, cB_or, cS_eql, cS_neq, cS_lss, cS_leq, cS_gtr, cS_geq, aLoad, aBytesStr, aElems, aElemSize, Mk.val, next_push, next_put, get_push, get_put, Heap.read, List.replicate, List.replicate_succ, start, vRes, vResL, vResults, List.headD, vfrz_some, vexit_eq, vexit1_frozen, vexit1_gc, vexit2_some, solV, solL, solz_succ, solz_zero, solF_some, sol1, List.tail_cons, List.tail_nil, frzL_nil, frzL_cons', frzM_some, frz_int, frz_bool, frz_str, frz_nilFunc, frz_undef, frz_list, frz_elem, frz_nilptr, frz_nilmap, frz_fn, frz_ptr, frz_nilslice, frz_func, frz_agg, frz_tuple, frz_slice, frz_acc, frzS_eq, frzTidy_nil, ice_nil, next_ice, get_ice, iceB_some, vAppend, fitsB, aFill, aPart, aUn, AV.cells?, AV.isCell, reps, byteC_def, accB, blkB, fr1, List.drop_succ_cons, List.drop_zero, List.drop_nil, vkeep_true, gc, gcIds, reach, grow, idsOfL, idsOf, ddup, gcPush, gcTidy, zipKeep, renL, ren, renId, ixOf, cellsOf, cut_zero, cut_p1, cut_p2, cut_p3, cut_p4, cut_app, cut_app0, cut_app1, cut_push, cut_put_lt, cut_put_ge, cut_ice, new_lt, new_lt2, new_lt3, new_lt4, new_le2, new_le3, new_le4, eqn_a, eqn_b, eqn_c, eqn_d, eqn_e, eqn_f, next_cut, get_cut, put_put, idsOfL_append, renL_append, idsOfL_bytes, idsOfL_strs, idsOfL_ints, renL_bytes, renL_strs, renL_ints, frzL_bytes, frzL_strs, frzL_ints, frzL_drop, frzL_take, idsOfL_drop, idsOfL_take, renL_drop, renL_take, toBytes_map, toBytes_drop, toBytes_take, toBytes_td, idsOf_byteC, ren_byteC, frz_byteC, next_empty, accI, blkI, c1, h1, hLl, hLe, hi, i12, hwr, w3, ok_push, hH, cut_self _ hH, ice_new hH]

theorem numbers_end (C : VCalls) (K : Nat) (H : Heap) (hH : H.Ok) (l : List Int) (ex : Bool) (p : List Int) (i : Nat) (hi : i = min 12 l.length) :
    VR70_0 C K (fr1 H) ([(0, .list 1 l.length (l.map (.int .i64)) ex), (3, accI H p), (4, .int .i64 i)], blkI H p) = some (.inr (.exit 0, [(3, accI H p)], blkI H p)) := by
  by_cases h : i < l.length
  · have i12 : ¬ (i : Int) < 12 := by omega
    simp (maxDischargeDepth := 20) [VB70_0, vst_some, vgd_true, vgd_false, vgo_nil, vgo_cons, vgo_guard, bwanted_some, vop_p, vop_l, vop_k, vop_n, vnorm_some, vseqc_normal, vseqc_exit, vseqc_ret, vcondc_true, vcondc_false, vexec_dreg, vdgo_nil, vdgo_p, vdgo_l, vdgo_k, vdgo_n, vdgo_gp, vdgo_gl, vdgo_gk, vdgo_gn, vdp_some, vdl_some, vdk_some, vdn_some, vdw_true, vdw_false, room_zero, room_put, get_room, next_room, get_hide, hide_zero, vexec_skip, vexec_exit, vexec_ret, vexec_reg, vexec_seq, vexec_cond, vexec_block, vexec_loop, blockO_exit, blockO_normal, blockO_ret, vfin_some, vend_normal, vend_ret, vbody_eq, outO_normal, outO_exit, outO_ret, vround_eq, vkeep_false, bkeep_cons, bkeep_nil, bput_some, bput_none, look_cons, look_nil, AOp.sub, POp.sub, LOp.sub, KOp.sub, NOp.sub, AX.sub, AX.subO, AX.ev, vP, vL, vK, vN, vElems, vElemSize, aP, aL, aK, aN, cB_add, cB_sub, cB_mul, cB_eql, cB_neq, cB_lss, cB_leq, cB_gtr, cB_geq, cB_xor, cB_and, cB_or, cS_eql, cS_neq, cS_lss, cS_leq, cS_gtr, cS_geq, aLoad, aBytesStr, aElems, aElemSize, Mk.val, next_push, next_put, get_push, get_put, Heap.read, List.replicate, List.replicate_succ, start, vRes, vResL, vResults, List.headD, vfrz_some, vexit_eq, vexit1_frozen, vexit1_gc, vexit2_some, solV, solL, solz_succ, solz_zero, solF_some, sol1, List.tail_cons, List.tail_nil, frzL_nil, frzL_cons', frzM_some, frz_int, frz_bool, frz_str, frz_nilFunc, frz_undef, frz_list, frz_elem, frz_nilptr, frz_nilmap, frz_fn, frz_ptr, frz_nilslice, frz_func, frz_agg, frz_tuple, frz_slice, frz_acc, frzS_eq, frzTidy_nil, ice_nil, next_ice, get_ice, iceB_some, vAppend, fitsB, aFill, aPart, aUn, AV.cells?, AV.isCell, reps, byteC_def, accB, blkB, fr1, List.drop_succ_cons, List.drop_zero, List.drop_nil, vkeep_true, gc, gcIds, reach, grow, idsOfL, idsOf, ddup, gcPush, gcTidy, zipKeep, renL, ren, renId, ixOf, cellsOf, cut_zero, cut_p1, cut_p2, cut_p3, cut_p4, cut_app, cut_app0, cut_app1, cut_push, cut_put_lt, cut_put_ge, cut_ice, new_lt, new_lt2, new_lt3, new_lt4, new_le2, new_le3, new_le4, eqn_a, eqn_b, eqn_c, eqn_d, eqn_e, eqn_f, next_cut, get_cut, put_put, idsOfL_append, renL_append, idsOfL_bytes, idsOfL_strs, idsOfL_ints, renL_bytes, renL_strs, renL_ints, frzL_bytes, frzL_strs, frzL_ints, frzL_drop, frzL_take, idsOfL_drop, idsOfL_take, renL_drop, renL_take, toBytes_map, toBytes_drop, toBytes_take, toBytes_td, idsOf_byteC, ren_byteC, frz_byteC, next_empty, accI, blkI, h, i12, cut_self _ hH, ice_new hH]
  · simp (maxDischargeDepth := 20) [VB70_0, vst_some, vgd_true, vgd_false, vgo_nil, vgo_cons, vgo_guard, bwanted_some, vop_p, vop_l, vop_k, vop_n, vnorm_some, vseqc_normal, vseqc_exit, vseqc_ret, vcondc_true, vcondc_false, vexec_dreg, vdgo_nil, vdgo_p, vdgo_l, vdgo_k, vdgo_n, vdgo_gp, vdgo_gl, vdgo_gk, vdgo_gn, vdp_some, vdl_some, vdk_some, vdn_some, vdw_true, vdw_false, room_zero, room_put, get_room, next_room, get_hide, hide_zero, vexec_skip, vexec_exit, vexec_ret, vexec_reg, vexec_seq, vexec_cond, vexec_block, vexec_loop, blockO_exit, blockO_normal, blockO_ret, vfin_some, vend_normal, vend_ret, vbody_eq, outO_normal, outO_exit, outO_ret, vround_eq, vkeep_false, bkeep_cons, bkeep_nil, bput_some, bput_none, look_cons, look_nil, AOp.sub, POp.sub, LOp.sub, KOp.sub, NOp.sub, AX.sub, AX.subO, AX.ev, vP, vL, vK, vN, vElems, vElemSize, aP, aL, aK, aN, cB_add, cB_sub, cB_mul, cB_eql, cB_neq, cB_lss, cB_leq, cB_gtr, cB_geq, cB_xor, cB_and, cB_or, cS_eql, cS_neq, cS_lss, cS_leq, cS_gtr, cS_geq, aLoad, aBytesStr, aElems, aElemSize, Mk.val, next_push, next_put, get_push, get_put, Heap.read, List.replicate, List.replicate_succ, start, vRes, vResL, vResults, List.headD, vfrz_some, vexit_eq, vexit1_frozen, vexit1_gc, vexit2_some, solV, solL, solz_succ, solz_zero, solF_some, sol1, List.tail_cons, List.tail_nil, frzL_nil, frzL_cons', frzM_some, frz_int, frz_bool, frz_str, frz_nilFunc, frz_undef, frz_list, frz_elem, frz_nilptr, frz_nilmap, frz_fn, frz_ptr, frz_nilslice, frz_func, frz_agg, frz_tuple, frz_slice, frz_acc, frzS_eq, frzTidy_nil, ice_nil, next_ice, get_ice, iceB_some, vAppend, fitsB, aFill, aPart, aUn, AV.cells?, AV.isCell, reps, byteC_def, accB, blkB, fr1, List.drop_succ_cons, List.drop_zero, List.drop_nil, vkeep_true, gc, gcIds, reach, grow, idsOfL, idsOf, ddup, gcPush, gcTidy, zipKeep, renL, ren, renId, ixOf, cellsOf, cut_zero, cut_p1, cut_p2, cut_p3, cut_p4, cut_app, cut_app0, cut_app1, cut_push, cut_put_lt, cut_put_ge, cut_ice, new_lt, new_lt2, new_lt3, new_lt4, new_le2, new_le3, new_le4, eqn_a, eqn_b, eqn_c, eqn_d, eqn_e, eqn_f, next_cut, get_cut, put_put, idsOfL_append, renL_append, idsOfL_bytes, idsOfL_strs, idsOfL_ints, renL_bytes, renL_strs, renL_ints, frzL_bytes, frzL_strs, frzL_ints, frzL_drop, frzL_take, idsOfL_drop, idsOfL_take, renL_drop, renL_take, toBytes_map, toBytes_drop, toBytes_take, toBytes_td, idsOf_byteC, ren_byteC, frz_byteC, next_empty, accI, blkI, h, cut_self _ hH, ice_new hH]

def numsL (l : List Int) : List Int := (l.take 12).map numF

theorem numbers_loop {kn K d : Nat} (hk : isKn kn = true) (hK : 1099511627776 < K) (H : Heap) (hH : H.Ok) (l : List Int) (ex : Bool) (hr : ∀ n ∈ l, Rng n) :
    VU70_0 (vcall kn vtab K (d + 2)) K (fr1 H) K ([(0, .list 1 l.length (l.map (.int .i64)) ex), (3, accI H []), (4, .int .i64 0)], blkI H []) = some (.exit 0, [(3, accI H (numsL l))], blkI H (numsL l)) := by
  have e : ∀ (r : List Int) (p : List Int), r.foldl (fun p x => p ++ [numF x]) p = p ++ r.map numF := by
    intro r
    induction r with
    | nil => intro p; simp
    | cons x r ih => intro p; simp [ih]
  have := vrun_list (body := vexec (vcall kn vtab K (d + 2)) K (fr1 H) _ VB70_0) (L := l.take 12) (st := fun p i => ([(0, .list 1 l.length (l.map (.int .i64)) ex), (3, accI H p), (4, .int .i64 i)], blkI H p)) (step := fun p x => p ++ [numF x]) (fin := fun p => (.exit 0, [(3, accI H p)], blkI H p))
    (fun p i => p.length = i)
    (fun p i hi hp => by
      have hi' : i < l.length ∧ i < 12 := by simp at hi; omega
      refine ⟨by simp [hp], ?_⟩
      have := numbers_round (K := K) (d := d) hk H hH l ex hr i hi'.1 hi'.2 p hp
      rw [List.getElem_take]
      exact this)
    (fun p _ => numbers_end _ K H hH l ex p _ (by simp)) (l.take 12) 0 K [] rfl (Nat.zero_le _) rfl (by simp; omega)
  rw [e] at this
  exact this

theorem numbers_spec {kn K d : Nat} (hk : isKn kn = true) (hK : 1099511627776 < K) (fr : Fr) (H : Heap) (hH : H.Ok) (l : List Int) (ex : Bool) (hr : ∀ n ∈ l, Rng n) :
    vcallB (vcall kn vtab K (d + 2)) vtab K fr 70 [.list 1 l.length (l.map (.int .i64)) ex] H = some (.list 1 (numsL l).length ((numsL l).map (.int .i64)) false, H) := by
  rw [body_bare rfl rfl]
  have h1 := numbers_loop (d := d) hk hK H hH l ex hr
  simp only [accI, blkI, fr1, List.length_nil, List.map_nil] at h1
  generalize numsL l = L at *
  simp (maxDischargeDepth := 20) [VF70, vst_some, vgd_true, vgd_false, vgo_nil, vgo_cons, vgo_guard, bwanted_some, vop_p, vop_l, vop_k, vop_n, vnorm_some, vseqc_normal, vseqc_exit, vseqc_ret, vcondc_true, vcondc_false, vexec_dreg, vdgo_nil, vdgo_p, vdgo_l, vdgo_k, vdgo_n, vdgo_gp, vdgo_gl, vdgo_gk, vdgo_gn, vdp_some, vdl_some, vdk_some, vdn_some, vdw_true, vdw_false, room_zero, room_put, get_room, next_room, get_hide, hide_zero, vexec_skip, vexec_exit, vexec_ret, vexec_reg, vexec_seq, vexec_cond, vexec_block, vexec_loop, blockO_exit, blockO_normal, blockO_ret, vfin_some, vend_normal, vend_ret, vbody_eq, outO_normal, outO_exit, outO_ret, vround_eq, vkeep_false, bkeep_cons, bkeep_nil, bput_some, bput_none, look_cons, look_nil, AOp.sub, POp.sub, LOp.sub, KOp.sub, NOp.sub, AX.sub, AX.subO, AX.ev, vP, vL, vK, vN, vElems, vElemSize, aP, aL, aK, aN, cB_add, cB_sub, cB_mul, cB_eql, cB_neq, cB_lss, cB_leq, cB_gtr, cB_geq, cB_xor, cB_and, cB_or, cS_eql, cS_neq, cS_lss, cS_leq, cS_gtr, cS_geq, aLoad, aBytesStr, aElems, aElemSize, Mk.val, next_push, next_put, get_push, get_put, Heap.read, List.replicate, List.replicate_succ, start, vRes, vResL, vResults, List.headD, vfrz_some, vexit_eq, vexit1_frozen, vexit1_gc, vexit2_some, solV, solL, solz_succ, solz_zero, solF_some, sol1, List.tail_cons, List.tail_nil, frzL_nil, frzL_cons', frzM_some, frz_int, frz_bool, frz_str, frz_nilFunc, frz_undef, frz_list, frz_elem, frz_nilptr, frz_nilmap, frz_fn, frz_ptr, frz_nilslice, frz_func, frz_agg, frz_tuple, frz_slice, frz_acc, frzS_eq, frzTidy_nil, ice_nil, next_ice, get_ice, iceB_some, vAppend, fitsB, aFill, aPart, aUn, AV.cells?, AV.isCell, reps, byteC_def, accB, blkB, fr1, List.drop_succ_cons, List.drop_zero, List.drop_nil, vkeep_true, gc, gcIds, reach, grow, idsOfL, idsOf, ddup, gcPush, gcTidy, zipKeep, renL, ren, renId, ixOf, cellsOf, cut_zero, cut_p1, cut_p2, cut_p3, cut_p4, cut_app, cut_app0, cut_app1, cut_push, cut_put_lt, cut_put_ge, cut_ice, new_lt, new_lt2, new_lt3, new_lt4, new_le2, new_le3, new_le4, eqn_a, eqn_b, eqn_c, eqn_d, eqn_e, eqn_f, next_cut, get_cut, put_put, idsOfL_append, renL_append, idsOfL_bytes, idsOfL_strs, idsOfL_ints, renL_bytes, renL_strs, renL_ints, frzL_bytes, frzL_strs, frzL_ints, frzL_drop, frzL_take, idsOfL_drop, idsOfL_take, renL_drop, renL_take, toBytes_map, toBytes_drop, toBytes_take, toBytes_td, idsOf_byteC, ren_byteC, frz_byteC, next_empty, h1, take_map, ok_push, hH, cut_self _ hH, ice_new hH]

theorem cmp_loop (C : VCalls) (K : Nat) (fr : Fr) (H : Heap) (l : List Int) (e1 e2 : Bool) (v4 A v76 : AV) (hl : l.length ≤ 1099511627776) (hK : 1099511627776 < K) :
    VU22_1 C K fr K ([(4, v4), (25, .list 1 l.length (l.map (.int .i64)) e1), (28, .list 1 l.length (l.map (.int .i64)) e2), (75, A), (76, v76), (169, .int .i64 l.length), (170, .int .i64 0)], H) = some (.exit 2, [(4, v4), (12, .undef), (75, A), (76, v76)], H) :=
  vrun_list (L := l) (st := fun (_ : Unit) i => ([(4, v4), (25, .list 1 l.length (l.map (.int .i64)) e1), (28, .list 1 l.length (l.map (.int .i64)) e2), (75, A), (76, v76), (169, .int .i64 l.length), (170, .int .i64 i)], H)) (step := fun u _ => u) (fin := fun _ => (.exit 2, [(4, v4), (12, .undef), (75, A), (76, v76)], H))
    (fun _ _ => True)
    (fun _ i hi _ => by
      have hwr : IntKind.i64.wrap ((i : Int) + 1) = (i : Int) + 1 := by rw [wrap_i64] <;> omega
      refine ⟨trivial, ?_⟩
      simp (maxDischargeDepth := 20) [VB22_1, vst_some, vgd_true, vgd_false, vgo_nil, vgo_cons, vgo_guard, bwanted_some, vop_p, vop_l, vop_k, vop_n, vnorm_some, vseqc_normal, vseqc_exit, vseqc_ret, vcondc_true, vcondc_false, vexec_dreg, vdgo_nil, vdgo_p, vdgo_l, vdgo_k, vdgo_n, vdgo_gp, vdgo_gl, vdgo_gk, vdgo_gn, vdp_some, vdl_some, vdk_some, vdn_some, vdw_true, vdw_false, room_zero, room_put, get_room, next_room, get_hide, hide_zero, vexec_skip, vexec_exit, vexec_ret, vexec_reg, vexec_seq, vexec_cond, vexec_block, vexec_loop, blockO_exit, blockO_normal, blockO_ret, vfin_some, vend_normal, vend_ret, vbody_eq, outO_normal, outO_exit, outO_ret, vround_eq, vkeep_false, bkeep_cons, bkeep_nil, bput_some, bput_none, look_cons, look_nil, AOp.sub, POp.sub, LOp.sub, KOp.sub, NOp.sub, AX.sub, AX.subO, AX.ev, vP, vL, vK, vN, vElems, vElemSize, aP, aL, aK, aN, cB_add, cB_sub, cB_mul, cB_eql, cB_neq, cB_lss, cB_leq, cB_gtr, cB_geq, cB_xor, cB_and, cB_or, cS_eql, cS_neq, cS_lss, cS_leq, cS_gtr, cS_geq, aLoad, aBytesStr, aElems, aElemSize, Mk.val, next_push, next_put, get_push, get_put, Heap.read, List.replicate, List.replicate_succ, start, vRes, vResL, vResults, List.headD, vfrz_some, vexit_eq, vexit1_frozen, vexit1_gc, vexit2_some, solV, solL, solz_succ, solz_zero, solF_some, sol1, List.tail_cons, List.tail_nil, frzL_nil, frzL_cons', frzM_some, frz_int, frz_bool, frz_str, frz_nilFunc, frz_undef, frz_list, frz_elem, frz_nilptr, frz_nilmap, frz_fn, frz_ptr, frz_nilslice, frz_func, frz_agg, frz_tuple, frz_slice, frz_acc, frzS_eq, frzTidy_nil, ice_nil, next_ice, get_ice, iceB_some, vAppend, fitsB, aFill, aPart, aUn, AV.cells?, AV.isCell, reps, byteC_def, accB, blkB, fr1, List.drop_succ_cons, List.drop_zero, List.drop_nil, loadOk, ofList, isList, bornL, bornX, bornXO, bornOf, bornPut_some, bornPut_none, bornP, known, knownL, AV.same, List.all_cons, List.all_nil, List.drop_zero, List.isEmpty_cons, List.isEmpty_nil, thawed, hi, hwr])
    (fun _ _ => by simp (maxDischargeDepth := 20) [VB22_1, vst_some, vgd_true, vgd_false, vgo_nil, vgo_cons, vgo_guard, bwanted_some, vop_p, vop_l, vop_k, vop_n, vnorm_some, vseqc_normal, vseqc_exit, vseqc_ret, vcondc_true, vcondc_false, vexec_dreg, vdgo_nil, vdgo_p, vdgo_l, vdgo_k, vdgo_n, vdgo_gp, vdgo_gl, vdgo_gk, vdgo_gn, vdp_some, vdl_some, vdk_some, vdn_some, vdw_true, vdw_false, room_zero, room_put, get_room, next_room, get_hide, hide_zero, vexec_skip, vexec_exit, vexec_ret, vexec_reg, vexec_seq, vexec_cond, vexec_block, vexec_loop, blockO_exit, blockO_normal, blockO_ret, vfin_some, vend_normal, vend_ret, vbody_eq, outO_normal, outO_exit, outO_ret, vround_eq, vkeep_false, bkeep_cons, bkeep_nil, bput_some, bput_none, look_cons, look_nil, AOp.sub, POp.sub, LOp.sub, KOp.sub, NOp.sub, AX.sub, AX.subO, AX.ev, vP, vL, vK, vN, vElems, vElemSize, aP, aL, aK, aN, cB_add, cB_sub, cB_mul, cB_eql, cB_neq, cB_lss, cB_leq, cB_gtr, cB_geq, cB_xor, cB_and, cB_or, cS_eql, cS_neq, cS_lss, cS_leq, cS_gtr, cS_geq, aLoad, aBytesStr, aElems, aElemSize, Mk.val, next_push, next_put, get_push, get_put, Heap.read, List.replicate, List.replicate_succ, start, vRes, vResL, vResults, List.headD, vfrz_some, vexit_eq, vexit1_frozen, vexit1_gc, vexit2_some, solV, solL, solz_succ, solz_zero, solF_some, sol1, List.tail_cons, List.tail_nil, frzL_nil, frzL_cons', frzM_some, frz_int, frz_bool, frz_str, frz_nilFunc, frz_undef, frz_list, frz_elem, frz_nilptr, frz_nilmap, frz_fn, frz_ptr, frz_nilslice, frz_func, frz_agg, frz_tuple, frz_slice, frz_acc, frzS_eq, frzTidy_nil, ice_nil, next_ice, get_ice, iceB_some, vAppend, fitsB, aFill, aPart, aUn, AV.cells?, AV.isCell, reps, byteC_def, accB, blkB, fr1, List.drop_succ_cons, List.drop_zero, List.drop_nil]) l 0 K () rfl (Nat.zero_le _) trivial (by omega)

abbrev lst (z : List UInt8) : AV := .list 1 z.length (z.map byteC) false

theorem takesR_len (s : List UInt8) (n : Nat) : (takesR s n).1.length ≤ n := by
  have e : takesR s n = (match runL rtakesStep ([], s.drop 0) (List.replicate n ()) with
    | .inl p => ((p.1, p.2, 0) : List Int × List UInt8 × Int)
    | .inr e => ([], [], e.1)) := (rtakes_eq s n [] 0).symm
  have go : ∀ (n : Nat) (p p' : List Int × List UInt8), runL rtakesStep p (List.replicate n ()) = .inl p' → p'.1.length = p.1.length + n := by
    intro n
    induction n with
    | zero => intro p p' h; simp only [List.replicate_zero, runL, Sum.inl.injEq] at h; subst h; rfl
    | succ n ih =>
      intro p p' h
      simp only [List.replicate_succ, runL, rtakesStep] at h
      by_cases he : (takeR p.2).2.2 = 0
      · simp only [if_pos he] at h
        have := ih _ _ h
        simp only [List.length_append, List.length_cons, List.length_nil] at this
        omega
      · simp only [if_neg he] at h
        cases h
  rw [e]
  cases hr : runL rtakesStep ([], s.drop 0) (List.replicate n ()) with
  | inl p => have := go n _ p hr; simp at this; simp; omega
  | inr e => simp

theorem one_round {kn K d : Nat} (hk : isKn kn = true) (hK : 1099511627776 < K) (H : Heap) (hH : H.Ok) (count : Int) (hc : count ≤ 1000) (L : List (List UInt8)) (hL : L.length = 3) (i : Nat) (hi : i < L.length) (hz : L[i].length ≤ 1099511627776) :
    VR22_0 (vcall kn vtab K (d + 4)) K (fr1 H) ([(4, .int .i64 count), (75, .agg (L.map lst)), (76, .int .i64 i)], H) = some (.inl ([(4, .int .i64 count), (75, .agg (L.map lst)), (76, .int .i64 (i + 1 : Nat))], H)) := by
  have hLl : (L.map lst)[i]? = some (lst L[i]) := by simp [hi]
  generalize hLe : L[i] = z at *
  have m1 : ∀ H k n, frzL (frz H k n) (L.map lst) = some (L.map lst, []) := fun H k n => frzL_still fun c hc => frz_still (by obtain ⟨b, _, rfl⟩ := List.mem_map.1 hc; rfl)
  have m2 : idsOfL (L.map lst) = [] := idsOfL_flat (flat_map (fun _ => rfl) L)
  have m3 : ∀ m p, renL m p (L.map lst) = L.map lst := fun m p => renL_flat (flat_map (fun _ => rfl) L)
  generalize L.map lst = M at *
  have c1 := fun fr H args => call_of (K := K) (d := d + 3) (fr := fr) (args := args) (H := H) hk (f := 67) rfl rfl
  have c2 := fun fr H args => call_of (K := K) (d := d + 3) (fr := fr) (args := args) (H := H) hk (f := 73) rfl rfl
  have c3 := fun fr H args => call_of (K := K) (d := d + 3) (fr := fr) (args := args) (H := H) hk (f := 68) rfl rfl
  have c4 := fun fr H args => call_of (K := K) (d := d + 3) (fr := fr) (args := args) (H := H) hk (f := 74) rfl rfl
  have c5 := fun fr H args => call_of (K := K) (d := d + 3) (fr := fr) (args := args) (H := H) hk (f := 69) rfl rfl
  have c6 := fun fr H args => call_of (K := K) (d := d + 3) (fr := fr) (args := args) (H := H) hk (f := 75) rfl rfl
  have h1 := fun fr => Take_spec (K := K) (d := d) hk hK fr H hH z false hz
  have h2 := fun fr => rtake_spec (K := K) (d := d + 2) hk hK fr H hH z false hz
  have h3 := fun fr => Takes_spec (K := K) (d := d) hk hK fr H hH z false hz count hc
  have h4 := fun fr => rtakes_spec (K := K) (d := d + 1) hk hK fr H hH z false hz count hc
  have h5 := fun fr => TakeText_spec (K := K) (d := d) hk hK fr H hH z false hz
  have h6 := fun fr => rtaketext_spec (K := K) (d := d + 1) hk hK fr H hH z false hz
  have hlen := takesR_len z count.toNat
  generalize takeR z = a at *
  generalize takesR z count.toNat = b at *
  generalize takeTextR z = c at *
  obtain ⟨a1, a2, a3⟩ := a
  obtain ⟨b1, b2, b3⟩ := b
  obtain ⟨x1, x2, x3⟩ := c
  simp only at h1 h2 h3 h4 h5 h6 hlen
  have h7 := fun fr v4 A v76 => cmp_loop (vcall kn vtab K (d + 4)) K fr H b1 false false v4 A v76 (by omega) hK
  have i3 : (i : Int) < 3 := by omega
  have i3' : i < 3 := by omega
  have hwr : IntKind.i64.wrap ((i : Int) + 1) = (i : Int) + 1 := by rw [wrap_i64] <;> omega
  simp only [lst] at hLl
  simp (maxDischargeDepth := 20) [VB22_0, vst_some, vgd_true, vgd_false, vgo_nil, vgo_cons, vgo_guard, bwanted_some, vop_p, vop_l, vop_k, vop_n, vnorm_some, vseqc_normal, vseqc_exit, vseqc_ret, vcondc_true, vcondc_false, vexec_dreg, vdgo_nil, vdgo_p, vdgo_l, vdgo_k, vdgo_n, vdgo_gp, vdgo_gl, vdgo_gk, vdgo_gn, vdp_some, vdl_some, vdk_some, vdn_some, vdw_true, vdw_false, room_zero, room_put, get_room, next_room, get_hide, hide_zero, vexec_skip, vexec_exit, vexec_ret, vexec_reg, vexec_seq, vexec_cond, vexec_block, vexec_loop, blockO_exit, blockO_normal, blockO_ret, vfin_some, vend_normal, vend_ret, vbody_eq, outO_normal, outO_exit, outO_ret, vround_eq, vkeep_false, bkeep_cons, bkeep_nil, bput_some, bput_none, look_cons, look_nil, AOp.sub, POp.sub, LOp.sub, KOp.sub, NOp.sub, AX.sub, AX.subO, AX.ev, vP, vL, vK, vN, vElems, vElemSize, aP, aL, aK, aN, cB_add, cB_sub, cB_mul, cB_eql, cB_neq, cB_lss, cB_leq, cB_gtr, cB_geq, cB_xor, cB_and, cB_or, cS_eql, cS_neq, cS_lss, cS_leq, cS_gtr, cS_geq, aLoad, aBytesStr, aElems, aElemSize, Mk.val, next_push, next_put, get_push, get_put, Heap.read, List.replicate, List.replicate_succ, start, vRes, vResL, vResults, List.headD, vfrz_some, vexit_eq, vexit1_frozen, vexit1_gc, vexit2_some, solV, solL, solz_succ, solz_zero, solF_some, sol1, List.tail_cons, List.tail_nil, frzL_nil, frzL_cons', frzM_some, frz_int, frz_bool, frz_str, frz_nilFunc, frz_undef, frz_list, frz_elem, frz_nilptr, frz_nilmap, frz_fn, frz_ptr, frz_nilslice, frz_func, frz_agg, frz_tuple, frz_slice, frz_acc, frzS_eq, frzTidy_nil, ice_nil, next_ice, get_ice, iceB_some, vAppend, fitsB, aFill, aPart, aUn, AV.cells?, AV.isCell, reps, byteC_def, accB, blkB, fr1, List.drop_succ_cons, List.drop_zero, List.drop_nil, vkeep_true, gc, gcIds, reach, grow, idsOfL, idsOf, ddup, gcPush, gcTidy, zipKeep, renL, ren, renId, ixOf, cellsOf, cut_zero, cut_p1, cut_p2, cut_p3, cut_p4, cut_app, cut_app0, cut_app1, cut_push, cut_put_lt, cut_put_ge, cut_ice, new_lt, new_lt2, new_lt3, new_lt4, new_le2, new_le3, new_le4, eqn_a, eqn_b, eqn_c, eqn_d, eqn_e, eqn_f, next_cut, get_cut, put_put, idsOfL_append, renL_append, idsOfL_bytes, idsOfL_strs, idsOfL_ints, renL_bytes, renL_strs, renL_ints, frzL_bytes, frzL_strs, frzL_ints, frzL_drop, frzL_take, idsOfL_drop, idsOfL_take, renL_drop, renL_take, toBytes_map, toBytes_drop, toBytes_take, toBytes_td, idsOf_byteC, ren_byteC, frz_byteC, next_empty, hLl, i3, i3', hwr, c1, c2, c3, c4, c5, c6, h1, h2, h3, h4, h5, h6, h7, m1, m2, m3, hH, cut_self _ hH, ice_new hH]

theorem all_rounds {kn K d : Nat} (hk : isKn kn = true) (hK : 1099511627776 < K) (H : Heap) (hH : H.Ok) (count : Int) (hc : count ≤ 1000) (L : List (List UInt8)) (hL : L.length = 3) (hz : ∀ z ∈ L, z.length ≤ 1099511627776) :
    VU22_0 (vcall kn vtab K (d + 4)) K (fr1 H) K ([(4, .int .i64 count), (75, .agg (L.map lst)), (76, .int .i64 0)], H) = some (.exit 0, [(12, .undef)], H) :=
  vrun_list (L := L) (st := fun (_ : Unit) i => ([(4, .int .i64 count), (75, .agg (L.map lst)), (76, .int .i64 i)], H)) (step := fun u _ => u) (fin := fun _ => (.exit 0, [(12, .undef)], H))
    (fun _ _ => True)
    (fun _ i hi _ => ⟨trivial, one_round hk hK H hH count hc L hL i hi (hz _ (List.getElem_mem hi))⟩)
    (fun _ _ => by rw [hL]; simp (maxDischargeDepth := 20) [VB22_0, vst_some, vgd_true, vgd_false, vgo_nil, vgo_cons, vgo_guard, bwanted_some, vop_p, vop_l, vop_k, vop_n, vnorm_some, vseqc_normal, vseqc_exit, vseqc_ret, vcondc_true, vcondc_false, vexec_dreg, vdgo_nil, vdgo_p, vdgo_l, vdgo_k, vdgo_n, vdgo_gp, vdgo_gl, vdgo_gk, vdgo_gn, vdp_some, vdl_some, vdk_some, vdn_some, vdw_true, vdw_false, room_zero, room_put, get_room, next_room, get_hide, hide_zero, vexec_skip, vexec_exit, vexec_ret, vexec_reg, vexec_seq, vexec_cond, vexec_block, vexec_loop, blockO_exit, blockO_normal, blockO_ret, vfin_some, vend_normal, vend_ret, vbody_eq, outO_normal, outO_exit, outO_ret, vround_eq, vkeep_false, bkeep_cons, bkeep_nil, bput_some, bput_none, look_cons, look_nil, AOp.sub, POp.sub, LOp.sub, KOp.sub, NOp.sub, AX.sub, AX.subO, AX.ev, vP, vL, vK, vN, vElems, vElemSize, aP, aL, aK, aN, cB_add, cB_sub, cB_mul, cB_eql, cB_neq, cB_lss, cB_leq, cB_gtr, cB_geq, cB_xor, cB_and, cB_or, cS_eql, cS_neq, cS_lss, cS_leq, cS_gtr, cS_geq, aLoad, aBytesStr, aElems, aElemSize, Mk.val, next_push, next_put, get_push, get_put, Heap.read, List.replicate, List.replicate_succ, start, vRes, vResL, vResults, List.headD, vfrz_some, vexit_eq, vexit1_frozen, vexit1_gc, vexit2_some, solV, solL, solz_succ, solz_zero, solF_some, sol1, List.tail_cons, List.tail_nil, frzL_nil, frzL_cons', frzM_some, frz_int, frz_bool, frz_str, frz_nilFunc, frz_undef, frz_list, frz_elem, frz_nilptr, frz_nilmap, frz_fn, frz_ptr, frz_nilslice, frz_func, frz_agg, frz_tuple, frz_slice, frz_acc, frzS_eq, frzTidy_nil, ice_nil, next_ice, get_ice, iceB_some, vAppend, fitsB, aFill, aPart, aUn, AV.cells?, AV.isCell, reps, byteC_def, accB, blkB, fr1, List.drop_succ_cons, List.drop_zero, List.drop_nil, vkeep_true, gc, gcIds, reach, grow, idsOfL, idsOf, ddup, gcPush, gcTidy, zipKeep, renL, ren, renId, ixOf, cellsOf, cut_zero, cut_p1, cut_p2, cut_p3, cut_p4, cut_app, cut_app0, cut_app1, cut_push, cut_put_lt, cut_put_ge, cut_ice, new_lt, new_lt2, new_lt3, new_lt4, new_le2, new_le3, new_le4, eqn_a, eqn_b, eqn_c, eqn_d, eqn_e, eqn_f, next_cut, get_cut, put_put, idsOfL_append, renL_append, idsOfL_bytes, idsOfL_strs, idsOfL_ints, renL_bytes, renL_strs, renL_ints, frzL_bytes, frzL_strs, frzL_ints, frzL_drop, frzL_take, idsOfL_drop, idsOfL_take, renL_drop, renL_take, toBytes_map, toBytes_drop, toBytes_take, toBytes_td, idsOf_byteC, ren_byteC, frz_byteC, next_empty, cut_self _ hH, ice_new hH]) L 0 K () rfl (Nat.zero_le _) trivial (by omega)

theorem sumLen_bulk : ∀ l : List (List UInt8), sumLen l ≤ D.bulks (l.map D.str)
  | [] => by simp [sumLen]
  | s :: l => by
    have := sumLen_bulk l
    simp only [sumLen, List.map_cons, List.sum_cons, D.bulks, D.bulk] at this ⊢
    omega

theorem putOf_len : ∀ (l : List Int) (s : List UInt8), (putOf s l).length ≤ s.length + 9 * l.length
  | [], s => by simp [putOf, runL]
  | x :: l, s => by
    simp only [putOf, runL, putStep]
    by_cases h : numsOk x = true
    · simp only [h, if_true]
      have h2 : x.toNat < 128 ^ 9 := by
        have : (128 : Nat) ^ 9 = 9223372036854775808 := by decide
        simp only [numsOk, decide_eq_true_eq] at h
        omega
      have h3 := encN_len x.toNat h2
      have := putOf_len l (s ++ encN x.toNat)
      simp only [putOf, List.length_append, List.length_cons] at this ⊢
      omega
    · simp [h]

theorem txtOf_len : ∀ (l : List (List UInt8)) (s : List UInt8), (∀ w ∈ l, w.length ≤ 1099511627776) → (txtOf s l).length ≤ s.length + 9 * l.length + sumLen l
  | [], s, _ => by simp [txtOf, sumLen]
  | w :: l, s, h => by
    have h2 : w.length < 128 ^ 9 := by
      have : (128 : Nat) ^ 9 = 9223372036854775808 := by decide
      have := h w (by simp)
      omega
    have h3 := encN_len w.length h2
    have := txtOf_len l (txtStep s w) fun x hx => h x (by simp [hx])
    simp only [txtOf, List.foldl_cons, txtStep, List.length_append, sumLen, List.map_cons, List.sum_cons, List.length_cons] at this ⊢
    omega

theorem numsL_len (l : List Int) : (numsL l).length ≤ 12 := by simp [numsL]; omega

set_option maxRecDepth 20000 in
set_option maxHeartbeats 8000000 in
theorem pure : VLaw (fun xs => vcall 51 vtab KK 30 fr0 22 xs Heap.empty) [.list (.int .u8), .list (.int .i64), .list .str, .list (.int .u8), .int .i64, .int .i64] 1048576 := by
  intro ds hare hb
  obtain ⟨d1, r1, rfl, i1, hare⟩ := are_cons hare
  obtain ⟨d2, r2, rfl, i2, hare⟩ := are_cons hare
  obtain ⟨d3, r3, rfl, i3, hare⟩ := are_cons hare
  obtain ⟨d4, r4, rfl, i4, hare⟩ := are_cons hare
  obtain ⟨d5, r5, rfl, i5, hare⟩ := are_cons hare
  obtain ⟨d6, r6, rfl, i6, hare⟩ := are_cons hare
  obtain rfl := are_nil hare
  obtain ⟨l1, rfl, i1⟩ := i1
  obtain ⟨l2, rfl, i2⟩ := i2
  obtain ⟨l3, rfl, i3⟩ := i3
  obtain ⟨l4, rfl, i4⟩ := i4
  obtain ⟨count, rfl, hcount⟩ := i5
  obtain ⟨cut, rfl, hcut⟩ := i6
  obtain ⟨b, rfl⟩ := is_bytes i1
  obtain ⟨l, rfl, hl⟩ := is_ints i2
  obtain ⟨texts, rfl⟩ := is_strs i3
  obtain ⟨raw, rfl⟩ := is_bytes i4
  have hk : isKn 51 = true := rfl
  have hK : 1099511627776 < KK := by decide
  simp only [List.map_cons, List.map_nil, D.bulks, D.bulk] at hb
  have bb : b.length ≤ 1048576 := bulk_map (f := fun b : UInt8 => D.int .u8 b.toNat) (fun _ => by simp [D.bulk]) (by omega)
  have br : raw.length ≤ 1048576 := bulk_map (f := fun b : UInt8 => D.int .u8 b.toNat) (fun _ => by simp [D.bulk]) (by omega)
  have bt : texts.length ≤ 1048576 := (bulk_strs (L := texts) (n := 1048576) (by omega)).1
  have bs : ∀ w ∈ texts, w.length ≤ 1048576 := (bulk_strs (L := texts) (n := 1048576) (by omega)).2
  have bS : sumLen texts ≤ 1048576 := Nat.le_trans (sumLen_bulk texts) (by omega)
  clear hb
  have c1 := fun fr H args => call_of (K := KK) (d := 28) (fr := fr) (args := args) (H := H) hk (f := 70) rfl rfl
  have c2 := fun fr H args => call_of (K := KK) (d := 28) (fr := fr) (args := args) (H := H) hk (f := 50) rfl rfl
  have c3 := fun fr H args => call_of (K := KK) (d := 28) (fr := fr) (args := args) (H := H) hk (f := 71) rfl rfl
  have c4 := fun fr H args => call_of (K := KK) (d := 28) (fr := fr) (args := args) (H := H) hk (f := 61) rfl rfl
  have c5 := fun fr H args => call_of (K := KK) (d := 28) (fr := fr) (args := args) (H := H) hk (f := 72) rfl rfl
  have c6 := fun fr H args => call_of (K := KK) (d := 28) (fr := fr) (args := args) (H := H) hk (f := 26) rfl rfl
  have kn := fun fr H => vcall_kn (kn := 51) (K := KK) (d := 28) (fr := fr) (H := H)
  have h1 := fun fr H hH => numbers_spec (K := KK) (d := 26) hk hK fr H hH l false hl
  have hn12 := numsL_len l
  have hP := putOf_len (numsL l) b
  have h2 := fun fr H hH => put_spec (K := KK) (d := 27) hk hK fr H hH b false (numsL l) false (by omega)
  have h3 := fun fr H hH => rput_spec (K := KK) (d := 27) hk hK fr H hH b false (numsL l) false (by omega)
  have hT := txtOf_len texts b fun w hw => by have := bs w hw; omega
  have h4 := fun fr H hH => text_spec (K := KK) (d := 26) hk hK fr H hH b false texts false (by omega)
  have h5 := fun fr H hH => rtext_spec (K := KK) (d := 26) hk hK fr H hH b false texts false (by omega)
  generalize numsL l = nl at *
  generalize putOf b nl = P at *
  generalize txtOf b texts = T at *
  have h6 := fun fr H hH => pick_spec (C := vcall 51 vtab KK 28) (K := KK) fr H hH count 8 (by omega) hcount (by omega)
  have h7 := fun fr H hH => pick_spec (C := vcall 51 vtab KK 28) (K := KK) fr H hH cut (P.length + 1) (by omega) hcut (by omega)
  have w1 : IntKind.i64.wrap (count % 8 - 1) = count % 8 - 1 := by rw [wrap_i64] <;> omega
  have w2 : IntKind.i64.wrap ((P.length : Int) + 1) = (P.length : Int) + 1 := by rw [wrap_i64] <;> omega
  obtain ⟨k, hk1, hk2⟩ : ∃ k : Nat, cut % ((P.length : Int) + 1) = k ∧ k ≤ P.length := by
    have q1 := Int.emod_nonneg cut (show ((P.length : Int) + 1) ≠ 0 by omega)
    have q2 := Int.emod_lt_of_pos cut (show 0 < ((P.length : Int) + 1) by omega)
    exact ⟨(cut % ((P.length : Int) + 1)).toNat, by omega, by omega⟩
  have h8 := fun count hc => all_rounds (K := KK) (d := 25) hk hK Heap.empty ok_empty count hc [raw, P.take k, T] rfl (by
    intro z hz
    simp only [List.mem_cons, List.not_mem_nil, or_false] at hz
    rcases hz with rfl | rfl | rfl
    · omega
    · rw [List.length_take]; omega
    · omega)
  have tb := toBytes_map P
  have tb' := toBytes_map T
  have hc1 : count % 8 - 1 ≤ 1000 := by omega
  replace h8 := h8 _ hc1
  have ht : List.take T.length (T.map byteC) = T.map byteC := List.take_of_length_le (by simp)
  have hm : min k P.length = k := by omega
  simp only [lst, List.map_cons, List.map_nil, List.length_take, List.map_take, hm, fr1, accB, blkB] at h1 h2 h3 h4 h5 h6 h7 h8 kn c1 c2 c3 c4 c5 c6 tb tb'
  rw [show Heap.empty.next = 0 from rfl] at h8
  simp only [Nat.reduceAdd] at h1 h2 h3 h4 h5 h6 h7 h8
  refine ⟨Heap.empty, ?_⟩
  simp only [List.map_cons, List.map_nil, encArgs, encArg, encS, encL_bytes, encL_ints, encL_strs, List.headD, shSize, List.length_map]
  rw [call_of hk (f := 22) rfl rfl]
  simp (maxDischargeDepth := 20) [vst_some, vgd_true, vgd_false, vgo_nil, vgo_cons, vgo_guard, bwanted_some, vop_p, vop_l, vop_k, vop_n, vnorm_some, vseqc_normal, vseqc_exit, vseqc_ret, vcondc_true, vcondc_false, vexec_dreg, vdgo_nil, vdgo_p, vdgo_l, vdgo_k, vdgo_n, vdgo_gp, vdgo_gl, vdgo_gk, vdgo_gn, vdp_some, vdl_some, vdk_some, vdn_some, vdw_true, vdw_false, room_zero, room_put, get_room, next_room, get_hide, hide_zero, vexec_skip, vexec_exit, vexec_ret, vexec_reg, vexec_seq, vexec_cond, vexec_block, vexec_loop, blockO_exit, blockO_normal, blockO_ret, vfin_some, vend_normal, vend_ret, vbody_eq, outO_normal, outO_exit, outO_ret, vround_eq, vkeep_false, bkeep_cons, bkeep_nil, bput_some, bput_none, look_cons, look_nil, AOp.sub, POp.sub, LOp.sub, KOp.sub, NOp.sub, AX.sub, AX.subO, AX.ev, vP, vL, vK, vN, vElems, vElemSize, aP, aL, aK, aN, cB_add, cB_sub, cB_mul, cB_eql, cB_neq, cB_lss, cB_leq, cB_gtr, cB_geq, cB_xor, cB_and, cB_or, cS_eql, cS_neq, cS_lss, cS_leq, cS_gtr, cS_geq, aLoad, aBytesStr, aElems, aElemSize, Mk.val, next_push, next_put, get_push, get_put, Heap.read, List.replicate, List.replicate_succ, start, vRes, vResL, vResults, List.headD, vfrz_some, vexit_eq, vexit1_frozen, vexit1_gc, vexit2_some, solV, solL, solz_succ, solz_zero, solF_some, sol1, List.tail_cons, List.tail_nil, frzL_nil, frzL_cons', frzM_some, frz_int, frz_bool, frz_str, frz_nilFunc, frz_undef, frz_list, frz_elem, frz_nilptr, frz_nilmap, frz_fn, frz_ptr, frz_nilslice, frz_func, frz_agg, frz_tuple, frz_slice, frz_acc, frzS_eq, frzTidy_nil, ice_nil, next_ice, get_ice, iceB_some, vAppend, fitsB, aFill, aPart, aUn, AV.cells?, AV.isCell, reps, byteC_def, accB, blkB, fr1, List.drop_succ_cons, List.drop_zero, List.drop_nil, vkeep_true, gc, gcIds, reach, grow, idsOfL, idsOf, ddup, gcPush, gcTidy, zipKeep, renL, ren, renId, ixOf, cellsOf, cut_zero, cut_p1, cut_p2, cut_p3, cut_p4, cut_app, cut_app0, cut_app1, cut_push, cut_put_lt, cut_put_ge, cut_ice, new_lt, new_lt2, new_lt3, new_lt4, new_le2, new_le3, new_le4, eqn_a, eqn_b, eqn_c, eqn_d, eqn_e, eqn_f, next_cut, get_cut, put_put, idsOfL_append, renL_append, idsOfL_bytes, idsOfL_strs, idsOfL_ints, renL_bytes, renL_strs, renL_ints, frzL_bytes, frzL_strs, frzL_ints, frzL_drop, frzL_take, idsOfL_drop, idsOfL_take, renL_drop, renL_take, toBytes_map, toBytes_drop, toBytes_take, toBytes_td, idsOf_byteC, ren_byteC, frz_byteC, next_empty]
  rw [body_bare rfl rfl]
  simp (maxDischargeDepth := 20) [VF22, vst_some, vgd_true, vgd_false, vgo_nil, vgo_cons, vgo_guard, bwanted_some, vop_p, vop_l, vop_k, vop_n, vnorm_some, vseqc_normal, vseqc_exit, vseqc_ret, vcondc_true, vcondc_false, vexec_dreg, vdgo_nil, vdgo_p, vdgo_l, vdgo_k, vdgo_n, vdgo_gp, vdgo_gl, vdgo_gk, vdgo_gn, vdp_some, vdl_some, vdk_some, vdn_some, vdw_true, vdw_false, room_zero, room_put, get_room, next_room, get_hide, hide_zero, vexec_skip, vexec_exit, vexec_ret, vexec_reg, vexec_seq, vexec_cond, vexec_block, vexec_loop, blockO_exit, blockO_normal, blockO_ret, vfin_some, vend_normal, vend_ret, vbody_eq, outO_normal, outO_exit, outO_ret, vround_eq, vkeep_false, bkeep_cons, bkeep_nil, bput_some, bput_none, look_cons, look_nil, AOp.sub, POp.sub, LOp.sub, KOp.sub, NOp.sub, AX.sub, AX.subO, AX.ev, vP, vL, vK, vN, vElems, vElemSize, aP, aL, aK, aN, cB_add, cB_sub, cB_mul, cB_eql, cB_neq, cB_lss, cB_leq, cB_gtr, cB_geq, cB_xor, cB_and, cB_or, cS_eql, cS_neq, cS_lss, cS_leq, cS_gtr, cS_geq, aLoad, aBytesStr, aElems, aElemSize, Mk.val, next_push, next_put, get_push, get_put, Heap.read, List.replicate, List.replicate_succ, start, vRes, vResL, vResults, List.headD, vfrz_some, vexit_eq, vexit1_frozen, vexit1_gc, vexit2_some, solV, solL, solz_succ, solz_zero, solF_some, sol1, List.tail_cons, List.tail_nil, frzL_nil, frzL_cons', frzM_some, frz_int, frz_bool, frz_str, frz_nilFunc, frz_undef, frz_list, frz_elem, frz_nilptr, frz_nilmap, frz_fn, frz_ptr, frz_nilslice, frz_func, frz_agg, frz_tuple, frz_slice, frz_acc, frzS_eq, frzTidy_nil, ice_nil, next_ice, get_ice, iceB_some, vAppend, fitsB, aFill, aPart, aUn, AV.cells?, AV.isCell, reps, byteC_def, accB, blkB, fr1, List.drop_succ_cons, List.drop_zero, List.drop_nil, vkeep_true, gc, gcIds, reach, grow, idsOfL, idsOf, ddup, gcPush, gcTidy, zipKeep, renL, ren, renId, ixOf, cellsOf, cut_zero, cut_p1, cut_p2, cut_p3, cut_p4, cut_app, cut_app0, cut_app1, cut_push, cut_put_lt, cut_put_ge, cut_ice, new_lt, new_lt2, new_lt3, new_lt4, new_le2, new_le3, new_le4, eqn_a, eqn_b, eqn_c, eqn_d, eqn_e, eqn_f, next_cut, get_cut, put_put, idsOfL_append, renL_append, idsOfL_bytes, idsOfL_strs, idsOfL_ints, renL_bytes, renL_strs, renL_ints, frzL_bytes, frzL_strs, frzL_ints, frzL_drop, frzL_take, idsOfL_drop, idsOfL_take, renL_drop, renL_take, toBytes_map, toBytes_drop, toBytes_take, toBytes_td, idsOf_byteC, ren_byteC, frz_byteC, next_empty, loadOk, ofList, isList, bornL, bornX, bornXO, bornOf, bornPut_some, bornPut_none, bornP, known, knownL, AV.same, List.all_cons, List.all_nil, List.drop_zero, List.isEmpty_cons, List.isEmpty_nil, thawed, vSlice, vSliceA, aSlice, aBoundO, aBound, aShift, aSliceStr, c1, c2, c3, c4, c5, c6, kn, h1, h2, h3, h4, h5, h6, h7, w1, w2, hk1, hk2, h8, ht, tb, tb', ok_push, ok_ice, ok_empty]

end numsTells
end Go.Proofs.Yteibgagdnidojaa
