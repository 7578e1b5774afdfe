/- NumsBack in V. -/
import Derived.Test.YtecjbeljchbihaaQBack
import Derived.Test.YtecjbeljchbihaaQHand2
import Derived.Test.YtecjbeljchbihaaAm33
set_option linter.all false
set_option linter.unusedSimpArgs false
namespace Go.Proofs.Ytecjbeljchbihaa
namespace numsBack

abbrev lst (z : List UInt8) : AV := .list 1 z.length (z.map byteC) false
abbrev lsts (z : List (List UInt8)) : AV := .list 1 z.length (z.map .str) false
abbrev lsti (z : List Int) : AV := .list 1 z.length (z.map (.int .i64)) false
def numsB (l : List Int) : List Int := (l.take 12).map fun x => ((mayF x : Nat) : Int)

section
variable {kn K d : Nat} (hk : isKn kn = true) (hK : 1099511627776 < K) (H : Heap) (hH : H.Ok) (texts : List (List UInt8)) (behind : List UInt8) (cut : Int)

include hk hH in
theorem n_round (l : List Int) (hr : ∀ n ∈ l, Rng n) (i : Nat) (hi : i < l.length) (h12 : i < 12) (p : List Int) (hp : p.length = i) :
    VR3_0 (vcall kn vtab K (d + 3)) K (fr1 H) ([(0, lsti l), (1, lsts texts), (2, lst behind), (3, .int .i64 cut), (9, accI H p), (10, .int .i64 i)], blkI H p) =
      some (.inl ([(0, lsti l), (1, lsts texts), (2, lst behind), (3, .int .i64 cut), (9, accI H (p ++ [((mayF l[i] : Nat) : Int)])), (10, .int .i64 (i + 1 : Nat))], blkI H (p ++ [((mayF l[i] : Nat) : Int)]))) := by
  have c1 := fun fr H args => call_of (K := K) (d := d + 2) (fr := fr) (args := args) (H := H) hk (f := 4) rfl rfl
  have h1 := fun fr H hH => may_spec (K := K) (d := d) hk fr H hH l[i] (hr _ (List.getElem_mem hi))
  have hLl := List.getElem?_eq_getElem hi
  generalize hLe : l[i] = L at *
  have hwr : IntKind.i64.wrap ((i : Int) + 1) = (i : Int) + 1 := by rw [wrap_i64] <;> omega
  have w3 : (p.length + 1) * 8 ≤ 70368744177664 ∧ p.length + 1 ≤ 70368744177664 := by omega
  have i12 : (i : Int) < 12 := by omega
  simp (maxDischargeDepth := 20) [VB3_0, vst_some, vgd_true, vgd_false, vgo_nil, vgo_cons, vgo_guard, bwanted_some, vop_p, vop_l, vop_k, vop_n, vnorm_some, vseqc_normal, vseqc_exit, vseqc_ret, vcondc_true, vcondc_false, vexec_dreg, vdgo_nil, vdgo_p, vdgo_l, vdgo_k, vdgo_n, vdgo_gp, vdgo_gl, vdgo_gk, vdgo_gn, vdp_some, vdl_some, vdk_some, vdn_some, vdw_true, vdw_false, room_zero, room_put, get_room, next_room, get_hide, hide_zero, vexec_skip, vexec_exit, vexec_ret, vexec_reg, vexec_seq, vexec_cond, vexec_block, vexec_loop, blockO_exit, blockO_normal, blockO_ret, vfin_some, vend_normal, vend_ret, vbody_eq, outO_normal, outO_exit, outO_ret, vround_eq, vkeep_false, bkeep_cons, bkeep_nil, bput_some, bput_none, look_cons, look_nil, AOp.sub, POp.sub, LOp.sub, KOp.sub, NOp.sub, AX.sub, AX.subO, AX.ev, vP, vL, vK, vN, vElems, vElemSize, aP, aL, aK, aN, cB_add, cB_sub, cB_mul, cB_eql, cB_neq, cB_lss, cB_leq, cB_gtr, cB_geq, cB_xor, cB_and, cB_or, cS_eql, cS_neq, cS_lss, cS_leq, cS_gtr, cS_geq, aLoad, aBytesStr, aElems, aElemSize, Mk.val, next_push, next_put, get_push, get_put, Heap.read, List.replicate, List.replicate_succ, start, vRes, vResL, vResults, List.headD, vfrz_some, vexit_eq, vexit1_frozen, vexit1_gc, vexit2_some, solV, solL, solz_succ, solz_zero, solF_some, sol1, List.tail_cons, List.tail_nil, frzL_nil, frzL_cons', frzM_some, frz_int, frz_bool, frz_str, frz_nilFunc, frz_undef, frz_list, frz_elem, frz_nilptr, frz_nilmap, frz_fn, frz_ptr, frz_nilslice, frz_func, frz_agg, frz_tuple, frz_slice, frz_acc, frzS_eq, frzTidy_nil, ice_nil, next_ice, get_ice, iceB_some, vAppend, fitsB, aFill, aPart, aUn, AV.cells?, AV.isCell, reps, byteC_def, accB, blkB, fr1, List.drop_succ_cons, List.drop_zero, List.drop_nil, vkeep_true, gc, gcIds, reach, grow, idsOfL, idsOf, ddup, gcPush, gcTidy, zipKeep, renL, ren, renId, ixOf, cellsOf, cut_zero, cut_p1, cut_p2, cut_p3, cut_p4, cut_app, cut_app0, cut_app1, cut_push, cut_put_lt, cut_put_ge, cut_ice, new_lt, new_lt2, new_lt3, new_lt4, new_le2, new_le3, new_le4, eqn_a, eqn_b, eqn_c, eqn_d, eqn_e, eqn_f, next_cut, get_cut, put_put, idsOfL_append, renL_append, idsOfL_bytes, idsOfL_strs, idsOfL_ints, renL_bytes, renL_strs, renL_ints, frzL_bytes, frzL_strs, frzL_ints, frzL_drop, frzL_take, idsOfL_drop, idsOfL_take, renL_drop, renL_take, toBytes_map, toBytes_drop, toBytes_take, toBytes_td, idsOf_byteC, ren_byteC, frz_byteC, next_empty, accI, blkI, c1, h1, hLl, hLe, hi, i12, hwr, w3, ok_push, hH, cut_self _ hH, ice_new hH]

include hH in
theorem n_end (C : VCalls) (l : List Int) (p : List Int) (i : Nat) (hi : i = min 12 l.length) :
    VR3_0 C K (fr1 H) ([(0, lsti l), (1, lsts texts), (2, lst behind), (3, .int .i64 cut), (9, accI H p), (10, .int .i64 i)], blkI H p) = some (.inr (.exit 0, [(1, lsts texts), (2, lst behind), (3, .int .i64 cut), (9, accI H p)], blkI H p)) := by
  by_cases h : i < l.length
  · have i12 : ¬ (i : Int) < 12 := by omega
    simp (maxDischargeDepth := 20) [VB3_0, vst_some, vgd_true, vgd_false, vgo_nil, vgo_cons, vgo_guard, bwanted_some, vop_p, vop_l, vop_k, vop_n, vnorm_some, vseqc_normal, vseqc_exit, vseqc_ret, vcondc_true, vcondc_false, vexec_dreg, vdgo_nil, vdgo_p, vdgo_l, vdgo_k, vdgo_n, vdgo_gp, vdgo_gl, vdgo_gk, vdgo_gn, vdp_some, vdl_some, vdk_some, vdn_some, vdw_true, vdw_false, room_zero, room_put, get_room, next_room, get_hide, hide_zero, vexec_skip, vexec_exit, vexec_ret, vexec_reg, vexec_seq, vexec_cond, vexec_block, vexec_loop, blockO_exit, blockO_normal, blockO_ret, vfin_some, vend_normal, vend_ret, vbody_eq, outO_normal, outO_exit, outO_ret, vround_eq, vkeep_false, bkeep_cons, bkeep_nil, bput_some, bput_none, look_cons, look_nil, AOp.sub, POp.sub, LOp.sub, KOp.sub, NOp.sub, AX.sub, AX.subO, AX.ev, vP, vL, vK, vN, vElems, vElemSize, aP, aL, aK, aN, cB_add, cB_sub, cB_mul, cB_eql, cB_neq, cB_lss, cB_leq, cB_gtr, cB_geq, cB_xor, cB_and, cB_or, cS_eql, cS_neq, cS_lss, cS_leq, cS_gtr, cS_geq, aLoad, aBytesStr, aElems, aElemSize, Mk.val, next_push, next_put, get_push, get_put, Heap.read, List.replicate, List.replicate_succ, start, vRes, vResL, vResults, List.headD, vfrz_some, vexit_eq, vexit1_frozen, vexit1_gc, vexit2_some, solV, solL, solz_succ, solz_zero, solF_some, sol1, List.tail_cons, List.tail_nil, frzL_nil, frzL_cons', frzM_some, frz_int, frz_bool, frz_str, frz_nilFunc, frz_undef, frz_list, frz_elem, frz_nilptr, frz_nilmap, frz_fn, frz_ptr, frz_nilslice, frz_func, frz_agg, frz_tuple, frz_slice, frz_acc, frzS_eq, frzTidy_nil, ice_nil, next_ice, get_ice, iceB_some, vAppend, fitsB, aFill, aPart, aUn, AV.cells?, AV.isCell, reps, byteC_def, accB, blkB, fr1, List.drop_succ_cons, List.drop_zero, List.drop_nil, vkeep_true, gc, gcIds, reach, grow, idsOfL, idsOf, ddup, gcPush, gcTidy, zipKeep, renL, ren, renId, ixOf, cellsOf, cut_zero, cut_p1, cut_p2, cut_p3, cut_p4, cut_app, cut_app0, cut_app1, cut_push, cut_put_lt, cut_put_ge, cut_ice, new_lt, new_lt2, new_lt3, new_lt4, new_le2, new_le3, new_le4, eqn_a, eqn_b, eqn_c, eqn_d, eqn_e, eqn_f, next_cut, get_cut, put_put, idsOfL_append, renL_append, idsOfL_bytes, idsOfL_strs, idsOfL_ints, renL_bytes, renL_strs, renL_ints, frzL_bytes, frzL_strs, frzL_ints, frzL_drop, frzL_take, idsOfL_drop, idsOfL_take, renL_drop, renL_take, toBytes_map, toBytes_drop, toBytes_take, toBytes_td, idsOf_byteC, ren_byteC, frz_byteC, next_empty, accI, blkI, h, i12, cut_self _ hH, ice_new hH]
  · simp (maxDischargeDepth := 20) [VB3_0, vst_some, vgd_true, vgd_false, vgo_nil, vgo_cons, vgo_guard, bwanted_some, vop_p, vop_l, vop_k, vop_n, vnorm_some, vseqc_normal, vseqc_exit, vseqc_ret, vcondc_true, vcondc_false, vexec_dreg, vdgo_nil, vdgo_p, vdgo_l, vdgo_k, vdgo_n, vdgo_gp, vdgo_gl, vdgo_gk, vdgo_gn, vdp_some, vdl_some, vdk_some, vdn_some, vdw_true, vdw_false, room_zero, room_put, get_room, next_room, get_hide, hide_zero, vexec_skip, vexec_exit, vexec_ret, vexec_reg, vexec_seq, vexec_cond, vexec_block, vexec_loop, blockO_exit, blockO_normal, blockO_ret, vfin_some, vend_normal, vend_ret, vbody_eq, outO_normal, outO_exit, outO_ret, vround_eq, vkeep_false, bkeep_cons, bkeep_nil, bput_some, bput_none, look_cons, look_nil, AOp.sub, POp.sub, LOp.sub, KOp.sub, NOp.sub, AX.sub, AX.subO, AX.ev, vP, vL, vK, vN, vElems, vElemSize, aP, aL, aK, aN, cB_add, cB_sub, cB_mul, cB_eql, cB_neq, cB_lss, cB_leq, cB_gtr, cB_geq, cB_xor, cB_and, cB_or, cS_eql, cS_neq, cS_lss, cS_leq, cS_gtr, cS_geq, aLoad, aBytesStr, aElems, aElemSize, Mk.val, next_push, next_put, get_push, get_put, Heap.read, List.replicate, List.replicate_succ, start, vRes, vResL, vResults, List.headD, vfrz_some, vexit_eq, vexit1_frozen, vexit1_gc, vexit2_some, solV, solL, solz_succ, solz_zero, solF_some, sol1, List.tail_cons, List.tail_nil, frzL_nil, frzL_cons', frzM_some, frz_int, frz_bool, frz_str, frz_nilFunc, frz_undef, frz_list, frz_elem, frz_nilptr, frz_nilmap, frz_fn, frz_ptr, frz_nilslice, frz_func, frz_agg, frz_tuple, frz_slice, frz_acc, frzS_eq, frzTidy_nil, ice_nil, next_ice, get_ice, iceB_some, vAppend, fitsB, aFill, aPart, aUn, AV.cells?, AV.isCell, reps, byteC_def, accB, blkB, fr1, List.drop_succ_cons, List.drop_zero, List.drop_nil, vkeep_true, gc, gcIds, reach, grow, idsOfL, idsOf, ddup, gcPush, gcTidy, zipKeep, renL, ren, renId, ixOf, cellsOf, cut_zero, cut_p1, cut_p2, cut_p3, cut_p4, cut_app, cut_app0, cut_app1, cut_push, cut_put_lt, cut_put_ge, cut_ice, new_lt, new_lt2, new_lt3, new_lt4, new_le2, new_le3, new_le4, eqn_a, eqn_b, eqn_c, eqn_d, eqn_e, eqn_f, next_cut, get_cut, put_put, idsOfL_append, renL_append, idsOfL_bytes, idsOfL_strs, idsOfL_ints, renL_bytes, renL_strs, renL_ints, frzL_bytes, frzL_strs, frzL_ints, frzL_drop, frzL_take, idsOfL_drop, idsOfL_take, renL_drop, renL_take, toBytes_map, toBytes_drop, toBytes_take, toBytes_td, idsOf_byteC, ren_byteC, frz_byteC, next_empty, accI, blkI, h, cut_self _ hH, ice_new hH]

include hk hK hH in
theorem n_loop (l : List Int) (hr : ∀ n ∈ l, Rng n) :
    VU3_0 (vcall kn vtab K (d + 3)) K (fr1 H) K ([(0, lsti l), (1, lsts texts), (2, lst behind), (3, .int .i64 cut), (9, accI H []), (10, .int .i64 0)], blkI H []) = some (.exit 0, [(1, lsts texts), (2, lst behind), (3, .int .i64 cut), (9, accI H (numsB l))], blkI H (numsB l)) := by
  have e : ∀ (r : List Int) (p : List Int), r.foldl (fun p x => p ++ [((mayF x : Nat) : Int)]) p = p ++ r.map fun x => ((mayF x : Nat) : Int) := by
    intro r
    induction r with
    | nil => intro p; simp
    | cons x r ih => intro p; simp [ih]
  have := vrun_list (body := vexec (vcall kn vtab K (d + 3)) K (fr1 H) _ VB3_0) (L := l.take 12) (st := fun p i => ([(0, lsti l), (1, lsts texts), (2, lst behind), (3, .int .i64 cut), (9, accI H p), (10, .int .i64 i)], blkI H p)) (step := fun p x => p ++ [((mayF x : Nat) : Int)]) (fin := fun p => (.exit 0, [(1, lsts texts), (2, lst behind), (3, .int .i64 cut), (9, accI H p)], blkI H p))
    (fun p i => p.length = i)
    (fun p i hi hp => by
      have hi' : i < l.length ∧ i < 12 := by simp at hi; omega
      refine ⟨by simp [hp], ?_⟩
      have := n_round (K := K) (d := d) hk H hH texts behind cut l hr i hi'.1 hi'.2 p hp
      rw [List.getElem_take]
      exact this)
    (fun p _ => n_end H hH texts behind cut _ l p _ (by simp)) (l.take 12) 0 K [] rfl (Nat.zero_le _) rfl (by simp; omega)
  rw [e] at this
  exact this

include hK hH in
theorem c_loop (C : VCalls) (b rest : List UInt8) (n : List Int) (hn : n.length ≤ 12) :
    VU3_1 C K (fr1 H) K ([(1, lsts texts), (2, lst behind), (3, .int .i64 cut), (9, lsti n), (11, lst b), (13, lsti n), (14, lst rest), (76, .int .i64 n.length), (77, .int .i64 0)], H) = some (.exit 2, [(1, lsts texts), (2, lst behind), (3, .int .i64 cut), (8, .undef), (9, lsti n), (11, lst b), (14, lst rest)], H) :=
  vrun_list (L := n) (st := fun (_ : Unit) i => ([(1, lsts texts), (2, lst behind), (3, .int .i64 cut), (9, lsti n), (11, lst b), (13, lsti n), (14, lst rest), (76, .int .i64 n.length), (77, .int .i64 i)], H)) (step := fun u _ => u) (fin := fun _ => (.exit 2, [(1, lsts texts), (2, lst behind), (3, .int .i64 cut), (8, .undef), (9, lsti n), (11, lst b), (14, lst rest)], H))
    (fun _ _ => True)
    (fun _ i hi _ => by
      have hwr : IntKind.i64.wrap ((i : Int) + 1) = (i : Int) + 1 := by rw [wrap_i64] <;> omega
      refine ⟨trivial, ?_⟩
      simp (maxDischargeDepth := 20) [VB3_1, vst_some, vgd_true, vgd_false, vgo_nil, vgo_cons, vgo_guard, bwanted_some, vop_p, vop_l, vop_k, vop_n, vnorm_some, vseqc_normal, vseqc_exit, vseqc_ret, vcondc_true, vcondc_false, vexec_dreg, vdgo_nil, vdgo_p, vdgo_l, vdgo_k, vdgo_n, vdgo_gp, vdgo_gl, vdgo_gk, vdgo_gn, vdp_some, vdl_some, vdk_some, vdn_some, vdw_true, vdw_false, room_zero, room_put, get_room, next_room, get_hide, hide_zero, vexec_skip, vexec_exit, vexec_ret, vexec_reg, vexec_seq, vexec_cond, vexec_block, vexec_loop, blockO_exit, blockO_normal, blockO_ret, vfin_some, vend_normal, vend_ret, vbody_eq, outO_normal, outO_exit, outO_ret, vround_eq, vkeep_false, bkeep_cons, bkeep_nil, bput_some, bput_none, look_cons, look_nil, AOp.sub, POp.sub, LOp.sub, KOp.sub, NOp.sub, AX.sub, AX.subO, AX.ev, vP, vL, vK, vN, vElems, vElemSize, aP, aL, aK, aN, cB_add, cB_sub, cB_mul, cB_eql, cB_neq, cB_lss, cB_leq, cB_gtr, cB_geq, cB_xor, cB_and, cB_or, cS_eql, cS_neq, cS_lss, cS_leq, cS_gtr, cS_geq, aLoad, aBytesStr, aElems, aElemSize, Mk.val, next_push, next_put, get_push, get_put, Heap.read, List.replicate, List.replicate_succ, start, vRes, vResL, vResults, List.headD, vfrz_some, vexit_eq, vexit1_frozen, vexit1_gc, vexit2_some, solV, solL, solz_succ, solz_zero, solF_some, sol1, List.tail_cons, List.tail_nil, frzL_nil, frzL_cons', frzM_some, frz_int, frz_bool, frz_str, frz_nilFunc, frz_undef, frz_list, frz_elem, frz_nilptr, frz_nilmap, frz_fn, frz_ptr, frz_nilslice, frz_func, frz_agg, frz_tuple, frz_slice, frz_acc, frzS_eq, frzTidy_nil, ice_nil, next_ice, get_ice, iceB_some, vAppend, fitsB, aFill, aPart, aUn, AV.cells?, AV.isCell, reps, byteC_def, accB, blkB, fr1, List.drop_succ_cons, List.drop_zero, List.drop_nil, vkeep_true, gc, gcIds, reach, grow, idsOfL, idsOf, ddup, gcPush, gcTidy, zipKeep, renL, ren, renId, ixOf, cellsOf, cut_zero, cut_p1, cut_p2, cut_p3, cut_p4, cut_app, cut_app0, cut_app1, cut_push, cut_put_lt, cut_put_ge, cut_ice, new_lt, new_lt2, new_lt3, new_lt4, new_le2, new_le3, new_le4, eqn_a, eqn_b, eqn_c, eqn_d, eqn_e, eqn_f, next_cut, get_cut, put_put, idsOfL_append, renL_append, idsOfL_bytes, idsOfL_strs, idsOfL_ints, renL_bytes, renL_strs, renL_ints, frzL_bytes, frzL_strs, frzL_ints, frzL_drop, frzL_take, idsOfL_drop, idsOfL_take, renL_drop, renL_take, toBytes_map, toBytes_drop, toBytes_take, toBytes_td, idsOf_byteC, ren_byteC, frz_byteC, next_empty, loadOk, ofList, isList, bornL, bornX, bornXO, bornOf, bornPut_some, bornPut_none, bornP, known, knownL, AV.same, List.all_cons, List.all_nil, List.drop_zero, List.isEmpty_cons, List.isEmpty_nil, thawed, hi, hwr, hH, cut_self _ hH, ice_new hH])
    (fun _ _ => by simp (maxDischargeDepth := 20) [VB3_1, vst_some, vgd_true, vgd_false, vgo_nil, vgo_cons, vgo_guard, bwanted_some, vop_p, vop_l, vop_k, vop_n, vnorm_some, vseqc_normal, vseqc_exit, vseqc_ret, vcondc_true, vcondc_false, vexec_dreg, vdgo_nil, vdgo_p, vdgo_l, vdgo_k, vdgo_n, vdgo_gp, vdgo_gl, vdgo_gk, vdgo_gn, vdp_some, vdl_some, vdk_some, vdn_some, vdw_true, vdw_false, room_zero, room_put, get_room, next_room, get_hide, hide_zero, vexec_skip, vexec_exit, vexec_ret, vexec_reg, vexec_seq, vexec_cond, vexec_block, vexec_loop, blockO_exit, blockO_normal, blockO_ret, vfin_some, vend_normal, vend_ret, vbody_eq, outO_normal, outO_exit, outO_ret, vround_eq, vkeep_false, bkeep_cons, bkeep_nil, bput_some, bput_none, look_cons, look_nil, AOp.sub, POp.sub, LOp.sub, KOp.sub, NOp.sub, AX.sub, AX.subO, AX.ev, vP, vL, vK, vN, vElems, vElemSize, aP, aL, aK, aN, cB_add, cB_sub, cB_mul, cB_eql, cB_neq, cB_lss, cB_leq, cB_gtr, cB_geq, cB_xor, cB_and, cB_or, cS_eql, cS_neq, cS_lss, cS_leq, cS_gtr, cS_geq, aLoad, aBytesStr, aElems, aElemSize, Mk.val, next_push, next_put, get_push, get_put, Heap.read, List.replicate, List.replicate_succ, start, vRes, vResL, vResults, List.headD, vfrz_some, vexit_eq, vexit1_frozen, vexit1_gc, vexit2_some, solV, solL, solz_succ, solz_zero, solF_some, sol1, List.tail_cons, List.tail_nil, frzL_nil, frzL_cons', frzM_some, frz_int, frz_bool, frz_str, frz_nilFunc, frz_undef, frz_list, frz_elem, frz_nilptr, frz_nilmap, frz_fn, frz_ptr, frz_nilslice, frz_func, frz_agg, frz_tuple, frz_slice, frz_acc, frzS_eq, frzTidy_nil, ice_nil, next_ice, get_ice, iceB_some, vAppend, fitsB, aFill, aPart, aUn, AV.cells?, AV.isCell, reps, byteC_def, accB, blkB, fr1, List.drop_succ_cons, List.drop_zero, List.drop_nil, vkeep_true, gc, gcIds, reach, grow, idsOfL, idsOf, ddup, gcPush, gcTidy, zipKeep, renL, ren, renId, ixOf, cellsOf, cut_zero, cut_p1, cut_p2, cut_p3, cut_p4, cut_app, cut_app0, cut_app1, cut_push, cut_put_lt, cut_put_ge, cut_ice, new_lt, new_lt2, new_lt3, new_lt4, new_le2, new_le3, new_le4, eqn_a, eqn_b, eqn_c, eqn_d, eqn_e, eqn_f, next_cut, get_cut, put_put, idsOfL_append, renL_append, idsOfL_bytes, idsOfL_strs, idsOfL_ints, renL_bytes, renL_strs, renL_ints, frzL_bytes, frzL_strs, frzL_ints, frzL_drop, frzL_take, idsOfL_drop, idsOfL_take, renL_drop, renL_take, toBytes_map, toBytes_drop, toBytes_take, toBytes_td, idsOf_byteC, ren_byteC, frz_byteC, next_empty, hH, cut_self _ hH, ice_new hH]) n 0 K () rfl (Nat.zero_le _) trivial (by omega)

include hk hK hH in
theorem t_round (b : List UInt8) (n : List Int) (ht : texts.length ≤ 1099511627776) (i : Nat) (hi : i < texts.length) (r : List UInt8) (hb : (encN texts[i].length ++ texts[i] ++ r).length ≤ 1099511627776) :
    VR3_2 (vcall kn vtab K (d + 4)) K (fr1 H) ([(2, lst behind), (3, .int .i64 cut), (9, lsti n), (11, lst b), (14, lst (encN texts[i].length ++ texts[i] ++ r)), (90, lsts texts), (91, .int .i64 texts.length), (92, .int .i64 i)], H) =
      some (.inl ([(2, lst behind), (3, .int .i64 cut), (9, lsti n), (11, lst b), (14, lst r), (90, lsts texts), (91, .int .i64 texts.length), (92, .int .i64 (i + 1 : Nat))], H)) := by
  have c1 := fun fr H args => call_of (K := K) (d := d + 3) (fr := fr) (args := args) (H := H) hk (f := 10) rfl rfl
  have h1 := fun fr => TakeText_spec (K := K) (d := d) hk hK fr H hH _ false hb
  rw [takeTextR_enc _ _ (by simp only [List.length_append] at hb; omega)] at h1
  have hLl := List.getElem?_eq_getElem hi
  generalize hLe : texts[i] = w at *
  generalize encN w.length ++ w ++ r = z at *
  have hwr : IntKind.i64.wrap ((i : Int) + 1) = (i : Int) + 1 := by rw [wrap_i64] <;> omega
  simp only at h1
  simp (maxDischargeDepth := 20) [VB3_2, vst_some, vgd_true, vgd_false, vgo_nil, vgo_cons, vgo_guard, bwanted_some, vop_p, vop_l, vop_k, vop_n, vnorm_some, vseqc_normal, vseqc_exit, vseqc_ret, vcondc_true, vcondc_false, vexec_dreg, vdgo_nil, vdgo_p, vdgo_l, vdgo_k, vdgo_n, vdgo_gp, vdgo_gl, vdgo_gk, vdgo_gn, vdp_some, vdl_some, vdk_some, vdn_some, vdw_true, vdw_false, room_zero, room_put, get_room, next_room, get_hide, hide_zero, vexec_skip, vexec_exit, vexec_ret, vexec_reg, vexec_seq, vexec_cond, vexec_block, vexec_loop, blockO_exit, blockO_normal, blockO_ret, vfin_some, vend_normal, vend_ret, vbody_eq, outO_normal, outO_exit, outO_ret, vround_eq, vkeep_false, bkeep_cons, bkeep_nil, bput_some, bput_none, look_cons, look_nil, AOp.sub, POp.sub, LOp.sub, KOp.sub, NOp.sub, AX.sub, AX.subO, AX.ev, vP, vL, vK, vN, vElems, vElemSize, aP, aL, aK, aN, cB_add, cB_sub, cB_mul, cB_eql, cB_neq, cB_lss, cB_leq, cB_gtr, cB_geq, cB_xor, cB_and, cB_or, cS_eql, cS_neq, cS_lss, cS_leq, cS_gtr, cS_geq, aLoad, aBytesStr, aElems, aElemSize, Mk.val, next_push, next_put, get_push, get_put, Heap.read, List.replicate, List.replicate_succ, start, vRes, vResL, vResults, List.headD, vfrz_some, vexit_eq, vexit1_frozen, vexit1_gc, vexit2_some, solV, solL, solz_succ, solz_zero, solF_some, sol1, List.tail_cons, List.tail_nil, frzL_nil, frzL_cons', frzM_some, frz_int, frz_bool, frz_str, frz_nilFunc, frz_undef, frz_list, frz_elem, frz_nilptr, frz_nilmap, frz_fn, frz_ptr, frz_nilslice, frz_func, frz_agg, frz_tuple, frz_slice, frz_acc, frzS_eq, frzTidy_nil, ice_nil, next_ice, get_ice, iceB_some, vAppend, fitsB, aFill, aPart, aUn, AV.cells?, AV.isCell, reps, byteC_def, accB, blkB, fr1, List.drop_succ_cons, List.drop_zero, List.drop_nil, vkeep_true, gc, gcIds, reach, grow, idsOfL, idsOf, ddup, gcPush, gcTidy, zipKeep, renL, ren, renId, ixOf, cellsOf, cut_zero, cut_p1, cut_p2, cut_p3, cut_p4, cut_app, cut_app0, cut_app1, cut_push, cut_put_lt, cut_put_ge, cut_ice, new_lt, new_lt2, new_lt3, new_lt4, new_le2, new_le3, new_le4, eqn_a, eqn_b, eqn_c, eqn_d, eqn_e, eqn_f, next_cut, get_cut, put_put, idsOfL_append, renL_append, idsOfL_bytes, idsOfL_strs, idsOfL_ints, renL_bytes, renL_strs, renL_ints, frzL_bytes, frzL_strs, frzL_ints, frzL_drop, frzL_take, idsOfL_drop, idsOfL_take, renL_drop, renL_take, toBytes_map, toBytes_drop, toBytes_take, toBytes_td, idsOf_byteC, ren_byteC, frz_byteC, next_empty, c1, h1, hLl, hLe, hi, hwr, hH, cut_self _ hH, ice_new hH]

include hH in
theorem t_end (C : VCalls) (b : List UInt8) (n : List Int) (r : List UInt8) :
    VR3_2 C K (fr1 H) ([(2, lst behind), (3, .int .i64 cut), (9, lsti n), (11, lst b), (14, lst r), (90, lsts texts), (91, .int .i64 texts.length), (92, .int .i64 texts.length)], H) = some (.inr (.exit 4, [(2, lst behind), (3, .int .i64 cut), (8, .undef), (9, lsti n), (11, lst b), (14, lst r)], H)) := by
  simp (maxDischargeDepth := 20) [VB3_2, vst_some, vgd_true, vgd_false, vgo_nil, vgo_cons, vgo_guard, bwanted_some, vop_p, vop_l, vop_k, vop_n, vnorm_some, vseqc_normal, vseqc_exit, vseqc_ret, vcondc_true, vcondc_false, vexec_dreg, vdgo_nil, vdgo_p, vdgo_l, vdgo_k, vdgo_n, vdgo_gp, vdgo_gl, vdgo_gk, vdgo_gn, vdp_some, vdl_some, vdk_some, vdn_some, vdw_true, vdw_false, room_zero, room_put, get_room, next_room, get_hide, hide_zero, vexec_skip, vexec_exit, vexec_ret, vexec_reg, vexec_seq, vexec_cond, vexec_block, vexec_loop, blockO_exit, blockO_normal, blockO_ret, vfin_some, vend_normal, vend_ret, vbody_eq, outO_normal, outO_exit, outO_ret, vround_eq, vkeep_false, bkeep_cons, bkeep_nil, bput_some, bput_none, look_cons, look_nil, AOp.sub, POp.sub, LOp.sub, KOp.sub, NOp.sub, AX.sub, AX.subO, AX.ev, vP, vL, vK, vN, vElems, vElemSize, aP, aL, aK, aN, cB_add, cB_sub, cB_mul, cB_eql, cB_neq, cB_lss, cB_leq, cB_gtr, cB_geq, cB_xor, cB_and, cB_or, cS_eql, cS_neq, cS_lss, cS_leq, cS_gtr, cS_geq, aLoad, aBytesStr, aElems, aElemSize, Mk.val, next_push, next_put, get_push, get_put, Heap.read, List.replicate, List.replicate_succ, start, vRes, vResL, vResults, List.headD, vfrz_some, vexit_eq, vexit1_frozen, vexit1_gc, vexit2_some, solV, solL, solz_succ, solz_zero, solF_some, sol1, List.tail_cons, List.tail_nil, frzL_nil, frzL_cons', frzM_some, frz_int, frz_bool, frz_str, frz_nilFunc, frz_undef, frz_list, frz_elem, frz_nilptr, frz_nilmap, frz_fn, frz_ptr, frz_nilslice, frz_func, frz_agg, frz_tuple, frz_slice, frz_acc, frzS_eq, frzTidy_nil, ice_nil, next_ice, get_ice, iceB_some, vAppend, fitsB, aFill, aPart, aUn, AV.cells?, AV.isCell, reps, byteC_def, accB, blkB, fr1, List.drop_succ_cons, List.drop_zero, List.drop_nil, vkeep_true, gc, gcIds, reach, grow, idsOfL, idsOf, ddup, gcPush, gcTidy, zipKeep, renL, ren, renId, ixOf, cellsOf, cut_zero, cut_p1, cut_p2, cut_p3, cut_p4, cut_app, cut_app0, cut_app1, cut_push, cut_put_lt, cut_put_ge, cut_ice, new_lt, new_lt2, new_lt3, new_lt4, new_le2, new_le3, new_le4, eqn_a, eqn_b, eqn_c, eqn_d, eqn_e, eqn_f, next_cut, get_cut, put_put, idsOfL_append, renL_append, idsOfL_bytes, idsOfL_strs, idsOfL_ints, renL_bytes, renL_strs, renL_ints, frzL_bytes, frzL_strs, frzL_ints, frzL_drop, frzL_take, idsOfL_drop, idsOfL_take, renL_drop, renL_take, toBytes_map, toBytes_drop, toBytes_take, toBytes_td, idsOf_byteC, ren_byteC, frz_byteC, next_empty, hH, cut_self _ hH, ice_new hH]

theorem enc_fold : ∀ (l : List (List UInt8)) (r : List UInt8), l.foldl (fun r w => r.drop ((encN w.length).length + w.length)) (encT l ++ r) = r
  | [], r => by simp [encT]
  | w :: l, r => by
    have e : encT (w :: l) ++ r = encN w.length ++ w ++ (encT l ++ r) := by simp [encT]
    rw [List.foldl_cons, e, List.drop_left' (by simp), enc_fold l r]

include hk hK hH in
theorem t_loop (b : List UInt8) (n : List Int) (ht : texts.length ≤ 1099511627776) (hb : (encT texts ++ behind).length ≤ 1099511627776) :
    VU3_2 (vcall kn vtab K (d + 4)) K (fr1 H) K ([(2, lst behind), (3, .int .i64 cut), (9, lsti n), (11, lst b), (14, lst (encT texts ++ behind)), (90, lsts texts), (91, .int .i64 texts.length), (92, .int .i64 0)], H) = some (.exit 4, [(2, lst behind), (3, .int .i64 cut), (8, .undef), (9, lsti n), (11, lst b), (14, lst behind)], H) := by
  have := vrun_list (body := vexec (vcall kn vtab K (d + 4)) K (fr1 H) _ VB3_2) (L := texts) (st := fun r i => ([(2, lst behind), (3, .int .i64 cut), (9, lsti n), (11, lst b), (14, lst r), (90, lsts texts), (91, .int .i64 texts.length), (92, .int .i64 i)], H)) (step := fun r w => r.drop ((encN w.length).length + w.length)) (fin := fun r => (.exit 4, [(2, lst behind), (3, .int .i64 cut), (8, .undef), (9, lsti n), (11, lst b), (14, lst r)], H))
    (fun r i => r = encT (texts.drop i) ++ behind ∧ r.length ≤ 1099511627776)
    (fun r i hi hr => by
      obtain ⟨rfl, hrl⟩ := hr
      have e : encT (texts.drop i) ++ behind = encN texts[i].length ++ texts[i] ++ (encT (texts.drop (i + 1)) ++ behind) := by
        rw [List.drop_eq_getElem_cons hi]
        simp only [encT, List.flatMap_cons, List.append_assoc]
      have e2 : (encT (texts.drop i) ++ behind).drop ((encN texts[i].length).length + texts[i].length) = encT (texts.drop (i + 1)) ++ behind := by
        rw [e, List.drop_left' (by simp)]
      have hrl' := hrl
      rw [e] at hrl'
      refine ⟨⟨e2, ?_⟩, ?_⟩
      · rw [e2]; simp only [List.length_append] at hrl' ⊢; omega
      · have := t_round (K := K) (d := d) hk hK H hH texts behind cut b n ht i hi (encT (texts.drop (i + 1)) ++ behind) hrl'
        rw [e2]
        rw [← e] at this
        exact this)
    (fun r _ => t_end H hH texts behind cut _ b n r) texts 0 K (encT texts ++ behind) rfl (Nat.zero_le _) ⟨rfl, hb⟩ (by omega)
  rw [enc_fold] at this
  exact this

end

theorem numsB_eq (l : List Int) : numsB l = ((l.take 12).map mayF).map fun (n : Nat) => (n : Int) := by simp [numsB, Function.comp_def]

theorem encT_len : ∀ l : List (List UInt8), (∀ w ∈ l, w.length ≤ 1099511627776) → (encT l).length ≤ 9 * l.length + sumLen l
  | [], _ => by simp [encT]
  | w :: l, h => by
    have h2 : w.length < 128 ^ 9 := by
      have : (128 : Nat) ^ 9 = 9223372036854775808 := by decide
      have := h w (by simp)
      omega
    have h3 := encN_len w.length h2
    have := encT_len l fun x hx => h x (by simp [hx])
    simp only [encT, List.flatMap_cons, List.length_append, sumLen, List.map_cons, List.sum_cons, List.length_cons] at this ⊢
    omega

theorem encNs_len : ∀ l : List Nat, (∀ n ∈ l, n ≤ 4611686018427387903) → (encNs l).length ≤ 9 * l.length
  | [], _ => by simp [encNs]
  | n :: l, h => by
    have h2 : n < 128 ^ 9 := by
      have : (128 : Nat) ^ 9 = 9223372036854775808 := by decide
      have := h n (by simp)
      omega
    have h3 := encN_len n h2
    have := encNs_len l fun x hx => h x (by simp [hx])
    simp only [encNs, List.flatMap_cons, List.length_append, List.length_cons] at this ⊢
    omega

theorem sumLen_bulk : ∀ l : List (List UInt8), sumLen l ≤ D.bulks (l.map D.str)
  | [] => by simp [sumLen]
  | s :: l => by
    have := sumLen_bulk l
    simp only [sumLen, List.map_cons, List.sum_cons, D.bulks, D.bulk] at this ⊢
    omega

theorem ok_none {H : Heap} (h : H.Ok) (b : Nat) : (H.put b none).Ok := by
  intro i hi
  have := h i hi
  simp only [Heap.put]
  split
  · rfl
  · exact this

set_option maxRecDepth 20000 in
set_option maxHeartbeats 8000000 in
theorem pure : VLaw (fun xs => vcall 9 vtab KK 30 fr0 3 xs Heap.empty) [.list (.int .i64), .list .str, .list (.int .u8), .int .i64] 1048576 := by
  intro ds hare hb
  obtain ⟨d1, r1, rfl, i1, hare⟩ := are_cons hare
  obtain ⟨d2, r2, rfl, i2, hare⟩ := are_cons hare
  obtain ⟨d3, r3, rfl, i3, hare⟩ := are_cons hare
  obtain ⟨d4, r4, rfl, i4, hare⟩ := are_cons hare
  obtain rfl := are_nil hare
  obtain ⟨l1, rfl, i1⟩ := i1
  obtain ⟨l2, rfl, i2⟩ := i2
  obtain ⟨l3, rfl, i3⟩ := i3
  obtain ⟨cut, rfl, hcut⟩ := i4
  obtain ⟨l, rfl, hl⟩ := is_ints i1
  obtain ⟨texts, rfl⟩ := is_strs i2
  obtain ⟨behind, rfl⟩ := is_bytes i3
  have hk : isKn 9 = true := rfl
  have hK : 1099511627776 < KK := by decide
  simp only [List.map_cons, List.map_nil, D.bulks, D.bulk] at hb
  have bb : behind.length ≤ 1048576 := bulk_map (f := fun b : UInt8 => D.int .u8 b.toNat) (fun _ => by simp [D.bulk]) (by omega)
  have bt : texts.length ≤ 1048576 := (bulk_strs (L := texts) (n := 1048576) (by omega)).1
  have bs : ∀ w ∈ texts, w.length ≤ 1048576 := (bulk_strs (L := texts) (n := 1048576) (by omega)).2
  have bS : sumLen texts ≤ 1048576 := Nat.le_trans (sumLen_bulk texts) (by omega)
  clear hb
  have c2 := fun fr H args => call_of (K := KK) (d := 28) (fr := fr) (args := args) (H := H) hk (f := 5) rfl rfl
  have c3 := fun fr H args => call_of (K := KK) (d := 28) (fr := fr) (args := args) (H := H) hk (f := 6) rfl rfl
  have c4 := fun fr H args => call_of (K := KK) (d := 28) (fr := fr) (args := args) (H := H) hk (f := 8) rfl rfl
  have c5 := fun fr H args => call_of (K := KK) (d := 28) (fr := fr) (args := args) (H := H) hk (f := 7) rfl rfl
  have c6 := fun fr H args => call_of (K := KK) (d := 28) (fr := fr) (args := args) (H := H) hk (f := 11) rfl rfl
  have kn := fun fr H => vcall_kn (kn := 9) (K := KK) (d := 28) (fr := fr) (H := H)
  have h1 := n_loop (K := KK) (d := 26) hk hK Heap.empty ok_empty texts behind cut l hl
  have hnl : ∀ n ∈ (l.take 12).map mayF, n ≤ 4611686018427387903 := by
    intro n hn
    obtain ⟨x, _, rfl⟩ := List.mem_map.1 hn
    exact mayF_le x
  have hn12 : ((l.take 12).map mayF).length ≤ 12 := by simp; omega
  rw [numsB_eq] at h1
  generalize (l.take 12).map mayF = ns at *
  have hP := putOf_enc ns [] hnl
  rw [List.nil_append] at hP
  have hPl := encNs_len ns hnl
  have hTl := encT_len texts fun w hw => by have := bs w hw; omega
  have h2 := fun fr H hH ex => put_spec (K := KK) (d := 27) hk hK fr H hH [] ex (ns.map fun (n : Nat) => (n : Int)) false (by simp; omega)
  have hT := txtOf_enc texts (encNs ns)
  have h3 := fun fr H hH => text_spec (K := KK) (d := 26) hk hK fr H hH (encNs ns) false texts false (by omega)
  have h4 := fun fr H hH => few_spec (C := vcall 9 vtab KK 28) (K := KK) fr H hH (encNs ns ++ encT texts) false (by rw [List.length_append]; omega) (encNs ns ++ encT texts).length
  rw [List.take_length] at h4
  have h5 := fun fr H hH ex => Takes_spec (K := KK) (d := 25) hk hK fr H hH (encNs ns ++ (encT texts ++ behind)) ex (by simp only [List.length_append]; omega) (ns.length : Int) (by omega)
  have h6 : ∀ k (hk' : k < (encNs ns).length) fr (H : Heap) (hH : H.Ok), vcallB (vcall 9 vtab KK (25 + 3)) vtab KK fr 7 [.list 1 k ((encNs ns).map byteC |>.take k) false, .int .i64 ns.length] H = some (.tuple [.list 1 0 [] false, .list 1 0 [] false, .int .i64 3], H) := by
    intro k hk' fr H hH
    have := Takes_spec (K := KK) (d := 25) hk hK fr H hH ((encNs ns).take k) false (by simp only [List.length_take]; omega) (ns.length : Int) (by omega)
    rw [Int.toNat_natCast, takesR_cut ns k hk' hnl, List.length_take, Nat.min_eq_left (by omega), List.map_take] at this
    exact this
  have h7 := c_loop (K := KK) hK Heap.empty ok_empty texts behind cut (vcall 9 vtab KK 29) (encNs ns) (encT texts ++ behind) (ns.map fun (n : Nat) => (n : Int)) (by simpa using hn12)
  have h8 := t_loop (K := KK) (d := 25) hk hK Heap.empty ok_empty texts behind cut (encNs ns) (ns.map fun (n : Nat) => (n : Int)) (by omega) (by rw [List.length_append]; omega)
  rw [Int.toNat_natCast, takesR_enc ns _ hnl] at h5
  rw [hP] at h2
  rw [hT] at h3
  have hNl : ns.length = (ns.map fun (n : Nat) => (n : Int)).length := by simp
  have hpos : ns ≠ [] → 0 < (encNs ns).length := encNs_pos ns
  have hne : ns ≠ [] ↔ 0 < ns.length := by cases ns <;> simp
  rw [hne] at hpos
  generalize hNe : (ns.map fun (n : Nat) => (n : Int)) = N at *
  simp only [hNl] at h5 h6 hpos hn12
  clear hNe hne
  generalize encNs ns = P at *
  generalize encT texts = T at *
  simp only [show P ++ (T ++ behind) = P ++ T ++ behind from (List.append_assoc _ _ _).symm] at h5
  have hQl : (P ++ T).length = P.length + T.length := List.length_append
  generalize P ++ T = Q at *
  have tb := toBytes_map behind
  have tb0 : toBytes [] = some [] := rfl
  simp only [lst, lsti, lsts, List.map_cons, List.map_nil, List.length_map, List.length_nil, fr1, accB, blkB, accI, blkI] at h1 h2 h3 h4 h5 h6 h7 h8 kn c2 c3 c4 c5 c6 tb
  rw [show Heap.empty.next = 0 from rfl] at h1 h7 h8
  simp only [Nat.reduceAdd] at h1 h2 h3 h4 h5 h6 h7 h8
  refine ⟨Heap.empty, ?_⟩
  simp only [List.map_cons, List.map_nil, encArgs, encArg, encS, encL_bytes, encL_ints, encL_strs, List.headD, shSize, List.length_map]
  rw [call_of hk (f := 3) rfl rfl]
  simp (maxDischargeDepth := 20) [vst_some, vgd_true, vgd_false, vgo_nil, vgo_cons, vgo_guard, bwanted_some, vop_p, vop_l, vop_k, vop_n, vnorm_some, vseqc_normal, vseqc_exit, vseqc_ret, vcondc_true, vcondc_false, vexec_dreg, vdgo_nil, vdgo_p, vdgo_l, vdgo_k, vdgo_n, vdgo_gp, vdgo_gl, vdgo_gk, vdgo_gn, vdp_some, vdl_some, vdk_some, vdn_some, vdw_true, vdw_false, room_zero, room_put, get_room, next_room, get_hide, hide_zero, vexec_skip, vexec_exit, vexec_ret, vexec_reg, vexec_seq, vexec_cond, vexec_block, vexec_loop, blockO_exit, blockO_normal, blockO_ret, vfin_some, vend_normal, vend_ret, vbody_eq, outO_normal, outO_exit, outO_ret, vround_eq, vkeep_false, bkeep_cons, bkeep_nil, bput_some, bput_none, look_cons, look_nil, AOp.sub, POp.sub, LOp.sub, KOp.sub, NOp.sub, AX.sub, AX.subO, AX.ev, vP, vL, vK, vN, vElems, vElemSize, aP, aL, aK, aN, cB_add, cB_sub, cB_mul, cB_eql, cB_neq, cB_lss, cB_leq, cB_gtr, cB_geq, cB_xor, cB_and, cB_or, cS_eql, cS_neq, cS_lss, cS_leq, cS_gtr, cS_geq, aLoad, aBytesStr, aElems, aElemSize, Mk.val, next_push, next_put, get_push, get_put, Heap.read, List.replicate, List.replicate_succ, start, vRes, vResL, vResults, List.headD, vfrz_some, vexit_eq, vexit1_frozen, vexit1_gc, vexit2_some, solV, solL, solz_succ, solz_zero, solF_some, sol1, List.tail_cons, List.tail_nil, frzL_nil, frzL_cons', frzM_some, frz_int, frz_bool, frz_str, frz_nilFunc, frz_undef, frz_list, frz_elem, frz_nilptr, frz_nilmap, frz_fn, frz_ptr, frz_nilslice, frz_func, frz_agg, frz_tuple, frz_slice, frz_acc, frzS_eq, frzTidy_nil, ice_nil, next_ice, get_ice, iceB_some, vAppend, fitsB, aFill, aPart, aUn, AV.cells?, AV.isCell, reps, byteC_def, accB, blkB, fr1, List.drop_succ_cons, List.drop_zero, List.drop_nil, vkeep_true, gc, gcIds, reach, grow, idsOfL, idsOf, ddup, gcPush, gcTidy, zipKeep, renL, ren, renId, ixOf, cellsOf, cut_zero, cut_p1, cut_p2, cut_p3, cut_p4, cut_app, cut_app0, cut_app1, cut_push, cut_put_lt, cut_put_ge, cut_ice, new_lt, new_lt2, new_lt3, new_lt4, new_le2, new_le3, new_le4, eqn_a, eqn_b, eqn_c, eqn_d, eqn_e, eqn_f, next_cut, get_cut, put_put, idsOfL_append, renL_append, idsOfL_bytes, idsOfL_strs, idsOfL_ints, renL_bytes, renL_strs, renL_ints, frzL_bytes, frzL_strs, frzL_ints, frzL_drop, frzL_take, idsOfL_drop, idsOfL_take, renL_drop, renL_take, toBytes_map, toBytes_drop, toBytes_take, toBytes_td, idsOf_byteC, ren_byteC, frz_byteC, next_empty]
  rw [body_bare rfl rfl]
  have hcase : (0 < N.length) = False ∨ (0 < N.length) = True ∧ ∃ k : Nat, k < P.length ∧ cut % (P.length : Int) = k ∧ 0 < P.length := by
    by_cases h0 : 0 < N.length
    · right
      have hp := hpos h0
      have q1 := Int.emod_nonneg cut (show (P.length : Int) ≠ 0 by omega)
      have q2 := Int.emod_lt_of_pos cut (show 0 < (P.length : Int) by omega)
      exact ⟨eq_true h0, (cut % (P.length : Int)).toNat, by omega, by omega, hp⟩
    · left
      exact eq_false h0
  by_cases hbe : behind = []
  · subst hbe
    simp only [List.length_nil, List.map_nil, List.append_nil] at h1 h5 h7 h8
    rcases hcase with h0 | ⟨h0, k, hk1, hk2, hp⟩
    · simp (maxDischargeDepth := 20) [VF3, vst_some, vgd_true, vgd_false, vgo_nil, vgo_cons, vgo_guard, bwanted_some, vop_p, vop_l, vop_k, vop_n, vnorm_some, vseqc_normal, vseqc_exit, vseqc_ret, vcondc_true, vcondc_false, vexec_dreg, vdgo_nil, vdgo_p, vdgo_l, vdgo_k, vdgo_n, vdgo_gp, vdgo_gl, vdgo_gk, vdgo_gn, vdp_some, vdl_some, vdk_some, vdn_some, vdw_true, vdw_false, room_zero, room_put, get_room, next_room, get_hide, hide_zero, vexec_skip, vexec_exit, vexec_ret, vexec_reg, vexec_seq, vexec_cond, vexec_block, vexec_loop, blockO_exit, blockO_normal, blockO_ret, vfin_some, vend_normal, vend_ret, vbody_eq, outO_normal, outO_exit, outO_ret, vround_eq, vkeep_false, bkeep_cons, bkeep_nil, bput_some, bput_none, look_cons, look_nil, AOp.sub, POp.sub, LOp.sub, KOp.sub, NOp.sub, AX.sub, AX.subO, AX.ev, vP, vL, vK, vN, vElems, vElemSize, aP, aL, aK, aN, cB_add, cB_sub, cB_mul, cB_eql, cB_neq, cB_lss, cB_leq, cB_gtr, cB_geq, cB_xor, cB_and, cB_or, cS_eql, cS_neq, cS_lss, cS_leq, cS_gtr, cS_geq, aLoad, aBytesStr, aElems, aElemSize, Mk.val, next_push, next_put, get_push, get_put, Heap.read, List.replicate, List.replicate_succ, start, vRes, vResL, vResults, List.headD, vfrz_some, vexit_eq, vexit1_frozen, vexit1_gc, vexit2_some, solV, solL, solz_succ, solz_zero, solF_some, sol1, List.tail_cons, List.tail_nil, frzL_nil, frzL_cons', frzM_some, frz_int, frz_bool, frz_str, frz_nilFunc, frz_undef, frz_list, frz_elem, frz_nilptr, frz_nilmap, frz_fn, frz_ptr, frz_nilslice, frz_func, frz_agg, frz_tuple, frz_slice, frz_acc, frzS_eq, frzTidy_nil, ice_nil, next_ice, get_ice, iceB_some, vAppend, fitsB, aFill, aPart, aUn, AV.cells?, AV.isCell, reps, byteC_def, accB, blkB, fr1, List.drop_succ_cons, List.drop_zero, List.drop_nil, vkeep_true, gc, gcIds, reach, grow, idsOfL, idsOf, ddup, gcPush, gcTidy, zipKeep, renL, ren, renId, ixOf, cellsOf, cut_zero, cut_p1, cut_p2, cut_p3, cut_p4, cut_app, cut_app0, cut_app1, cut_push, cut_put_lt, cut_put_ge, cut_ice, new_lt, new_lt2, new_lt3, new_lt4, new_le2, new_le3, new_le4, eqn_a, eqn_b, eqn_c, eqn_d, eqn_e, eqn_f, next_cut, get_cut, put_put, idsOfL_append, renL_append, idsOfL_bytes, idsOfL_strs, idsOfL_ints, renL_bytes, renL_strs, renL_ints, frzL_bytes, frzL_strs, frzL_ints, frzL_drop, frzL_take, idsOfL_drop, idsOfL_take, renL_drop, renL_take, toBytes_map, toBytes_drop, toBytes_take, toBytes_td, idsOf_byteC, ren_byteC, frz_byteC, next_empty, loadOk, ofList, isList, bornL, bornX, bornXO, bornOf, bornPut_some, bornPut_none, bornP, known, knownL, AV.same, List.all_cons, List.all_nil, List.drop_zero, List.isEmpty_cons, List.isEmpty_nil, thawed, vSlice, vSliceA, aSlice, aBoundO, aBound, aShift, aSliceStr, c2, c3, c4, c5, c6, kn, h1, h2, h3, h4, h5, h7, h8, tb, tb0, take_map, h0, ok_push, ok_ice, ok_empty]
    · have hp' : 0 < (P.length : Int) := by omega
      have h9 := fun fr H hH => pick_spec (C := vcall 9 vtab KK 28) (K := KK) fr H hH cut P.length hp' hcut (by omega)
      have h6' := h6 k hk1
      have hk3 : k ≤ P.length := by omega
      simp (maxDischargeDepth := 20) [VF3, vst_some, vgd_true, vgd_false, vgo_nil, vgo_cons, vgo_guard, bwanted_some, vop_p, vop_l, vop_k, vop_n, vnorm_some, vseqc_normal, vseqc_exit, vseqc_ret, vcondc_true, vcondc_false, vexec_dreg, vdgo_nil, vdgo_p, vdgo_l, vdgo_k, vdgo_n, vdgo_gp, vdgo_gl, vdgo_gk, vdgo_gn, vdp_some, vdl_some, vdk_some, vdn_some, vdw_true, vdw_false, room_zero, room_put, get_room, next_room, get_hide, hide_zero, vexec_skip, vexec_exit, vexec_ret, vexec_reg, vexec_seq, vexec_cond, vexec_block, vexec_loop, blockO_exit, blockO_normal, blockO_ret, vfin_some, vend_normal, vend_ret, vbody_eq, outO_normal, outO_exit, outO_ret, vround_eq, vkeep_false, bkeep_cons, bkeep_nil, bput_some, bput_none, look_cons, look_nil, AOp.sub, POp.sub, LOp.sub, KOp.sub, NOp.sub, AX.sub, AX.subO, AX.ev, vP, vL, vK, vN, vElems, vElemSize, aP, aL, aK, aN, cB_add, cB_sub, cB_mul, cB_eql, cB_neq, cB_lss, cB_leq, cB_gtr, cB_geq, cB_xor, cB_and, cB_or, cS_eql, cS_neq, cS_lss, cS_leq, cS_gtr, cS_geq, aLoad, aBytesStr, aElems, aElemSize, Mk.val, next_push, next_put, get_push, get_put, Heap.read, List.replicate, List.replicate_succ, start, vRes, vResL, vResults, List.headD, vfrz_some, vexit_eq, vexit1_frozen, vexit1_gc, vexit2_some, solV, solL, solz_succ, solz_zero, solF_some, sol1, List.tail_cons, List.tail_nil, frzL_nil, frzL_cons', frzM_some, frz_int, frz_bool, frz_str, frz_nilFunc, frz_undef, frz_list, frz_elem, frz_nilptr, frz_nilmap, frz_fn, frz_ptr, frz_nilslice, frz_func, frz_agg, frz_tuple, frz_slice, frz_acc, frzS_eq, frzTidy_nil, ice_nil, next_ice, get_ice, iceB_some, vAppend, fitsB, aFill, aPart, aUn, AV.cells?, AV.isCell, reps, byteC_def, accB, blkB, fr1, List.drop_succ_cons, List.drop_zero, List.drop_nil, vkeep_true, gc, gcIds, reach, grow, idsOfL, idsOf, ddup, gcPush, gcTidy, zipKeep, renL, ren, renId, ixOf, cellsOf, cut_zero, cut_p1, cut_p2, cut_p3, cut_p4, cut_app, cut_app0, cut_app1, cut_push, cut_put_lt, cut_put_ge, cut_ice, new_lt, new_lt2, new_lt3, new_lt4, new_le2, new_le3, new_le4, eqn_a, eqn_b, eqn_c, eqn_d, eqn_e, eqn_f, next_cut, get_cut, put_put, idsOfL_append, renL_append, idsOfL_bytes, idsOfL_strs, idsOfL_ints, renL_bytes, renL_strs, renL_ints, frzL_bytes, frzL_strs, frzL_ints, frzL_drop, frzL_take, idsOfL_drop, idsOfL_take, renL_drop, renL_take, toBytes_map, toBytes_drop, toBytes_take, toBytes_td, idsOf_byteC, ren_byteC, frz_byteC, next_empty, loadOk, ofList, isList, bornL, bornX, bornXO, bornOf, bornPut_some, bornPut_none, bornP, known, knownL, AV.same, List.all_cons, List.all_nil, List.drop_zero, List.isEmpty_cons, List.isEmpty_nil, thawed, vSlice, vSliceA, aSlice, aBoundO, aBound, aShift, aSliceStr, c2, c3, c4, c5, c6, kn, h1, h2, h3, h4, h5, h7, h8, tb, tb0, take_map, h0, h9, h6', hk2, hk3, ok_push, ok_ice, ok_empty]
  · have hbl : behind.length ≠ 0 := fun e => hbe (List.length_eq_zero_iff.1 e)
    have ht : List.take (Q.length + behind.length) (Q.map byteC ++ behind.map byteC) = Q.map byteC ++ behind.map byteC := List.take_of_length_le (by simp)
    have fz : ∀ H n e, frzL (frz H n e) (Q.map byteC ++ behind.map byteC) = some (Q.map byteC ++ behind.map byteC, []) := fun H n e => by
      have := frzL_bytes H n e (Q ++ behind)
      rw [List.map_append] at this
      exact this
    have hbig : Q.length + behind.length ≤ 70368744177664 := by omega
    simp only [List.length_append, List.map_append] at h5 h7 h8
    rcases hcase with h0 | ⟨h0, k, hk1, hk2, hp⟩
    · simp (maxDischargeDepth := 20) [VF3, vst_some, vgd_true, vgd_false, vgo_nil, vgo_cons, vgo_guard, bwanted_some, vop_p, vop_l, vop_k, vop_n, vnorm_some, vseqc_normal, vseqc_exit, vseqc_ret, vcondc_true, vcondc_false, vexec_dreg, vdgo_nil, vdgo_p, vdgo_l, vdgo_k, vdgo_n, vdgo_gp, vdgo_gl, vdgo_gk, vdgo_gn, vdp_some, vdl_some, vdk_some, vdn_some, vdw_true, vdw_false, room_zero, room_put, get_room, next_room, get_hide, hide_zero, vexec_skip, vexec_exit, vexec_ret, vexec_reg, vexec_seq, vexec_cond, vexec_block, vexec_loop, blockO_exit, blockO_normal, blockO_ret, vfin_some, vend_normal, vend_ret, vbody_eq, outO_normal, outO_exit, outO_ret, vround_eq, vkeep_false, bkeep_cons, bkeep_nil, bput_some, bput_none, look_cons, look_nil, AOp.sub, POp.sub, LOp.sub, KOp.sub, NOp.sub, AX.sub, AX.subO, AX.ev, vP, vL, vK, vN, vElems, vElemSize, aP, aL, aK, aN, cB_add, cB_sub, cB_mul, cB_eql, cB_neq, cB_lss, cB_leq, cB_gtr, cB_geq, cB_xor, cB_and, cB_or, cS_eql, cS_neq, cS_lss, cS_leq, cS_gtr, cS_geq, aLoad, aBytesStr, aElems, aElemSize, Mk.val, next_push, next_put, get_push, get_put, Heap.read, List.replicate, List.replicate_succ, start, vRes, vResL, vResults, List.headD, vfrz_some, vexit_eq, vexit1_frozen, vexit1_gc, vexit2_some, solV, solL, solz_succ, solz_zero, solF_some, sol1, List.tail_cons, List.tail_nil, frzL_nil, frzL_cons', frzM_some, frz_int, frz_bool, frz_str, frz_nilFunc, frz_undef, frz_list, frz_elem, frz_nilptr, frz_nilmap, frz_fn, frz_ptr, frz_nilslice, frz_func, frz_agg, frz_tuple, frz_slice, frz_acc, frzS_eq, frzTidy_nil, ice_nil, next_ice, get_ice, iceB_some, vAppend, fitsB, aFill, aPart, aUn, AV.cells?, AV.isCell, reps, byteC_def, accB, blkB, fr1, List.drop_succ_cons, List.drop_zero, List.drop_nil, vkeep_true, gc, gcIds, reach, grow, idsOfL, idsOf, ddup, gcPush, gcTidy, zipKeep, renL, ren, renId, ixOf, cellsOf, cut_zero, cut_p1, cut_p2, cut_p3, cut_p4, cut_app, cut_app0, cut_app1, cut_push, cut_put_lt, cut_put_ge, cut_ice, new_lt, new_lt2, new_lt3, new_lt4, new_le2, new_le3, new_le4, eqn_a, eqn_b, eqn_c, eqn_d, eqn_e, eqn_f, next_cut, get_cut, put_put, idsOfL_append, renL_append, idsOfL_bytes, idsOfL_strs, idsOfL_ints, renL_bytes, renL_strs, renL_ints, frzL_bytes, frzL_strs, frzL_ints, frzL_drop, frzL_take, idsOfL_drop, idsOfL_take, renL_drop, renL_take, toBytes_map, toBytes_drop, toBytes_take, toBytes_td, idsOf_byteC, ren_byteC, frz_byteC, next_empty, loadOk, ofList, isList, bornL, bornX, bornXO, bornOf, bornPut_some, bornPut_none, bornP, known, knownL, AV.same, List.all_cons, List.all_nil, List.drop_zero, List.isEmpty_cons, List.isEmpty_nil, thawed, vSlice, vSliceA, aSlice, aBoundO, aBound, aShift, aSliceStr, c2, c3, c4, c5, c6, kn, h1, h2, h3, h4, h5, h7, h8, tb, tb0, take_map, h0, hbl, hbig, ht, fz, ok_none, ok_push, ok_ice, ok_empty]
    · have hp' : 0 < (P.length : Int) := by omega
      have h9 := fun fr H hH => pick_spec (C := vcall 9 vtab KK 28) (K := KK) fr H hH cut P.length hp' hcut (by omega)
      have h6' := h6 k hk1
      have hk3 : k ≤ P.length := by omega
      simp (maxDischargeDepth := 20) [VF3, vst_some, vgd_true, vgd_false, vgo_nil, vgo_cons, vgo_guard, bwanted_some, vop_p, vop_l, vop_k, vop_n, vnorm_some, vseqc_normal, vseqc_exit, vseqc_ret, vcondc_true, vcondc_false, vexec_dreg, vdgo_nil, vdgo_p, vdgo_l, vdgo_k, vdgo_n, vdgo_gp, vdgo_gl, vdgo_gk, vdgo_gn, vdp_some, vdl_some, vdk_some, vdn_some, vdw_true, vdw_false, room_zero, room_put, get_room, next_room, get_hide, hide_zero, vexec_skip, vexec_exit, vexec_ret, vexec_reg, vexec_seq, vexec_cond, vexec_block, vexec_loop, blockO_exit, blockO_normal, blockO_ret, vfin_some, vend_normal, vend_ret, vbody_eq, outO_normal, outO_exit, outO_ret, vround_eq, vkeep_false, bkeep_cons, bkeep_nil, bput_some, bput_none, look_cons, look_nil, AOp.sub, POp.sub, LOp.sub, KOp.sub, NOp.sub, AX.sub, AX.subO, AX.ev, vP, vL, vK, vN, vElems, vElemSize, aP, aL, aK, aN, cB_add, cB_sub, cB_mul, cB_eql, cB_neq, cB_lss, cB_leq, cB_gtr, cB_geq, cB_xor, cB_and, cB_or, cS_eql, cS_neq, cS_lss, cS_leq, cS_gtr, cS_geq, aLoad, aBytesStr, aElems, aElemSize, Mk.val, next_push, next_put, get_push, get_put, Heap.read, List.replicate, List.replicate_succ, start, vRes, vResL, vResults, List.headD, vfrz_some, vexit_eq, vexit1_frozen, vexit1_gc, vexit2_some, solV, solL, solz_succ, solz_zero, solF_some, sol1, List.tail_cons, List.tail_nil, frzL_nil, frzL_cons', frzM_some, frz_int, frz_bool, frz_str, frz_nilFunc, frz_undef, frz_list, frz_elem, frz_nilptr, frz_nilmap, frz_fn, frz_ptr, frz_nilslice, frz_func, frz_agg, frz_tuple, frz_slice, frz_acc, frzS_eq, frzTidy_nil, ice_nil, next_ice, get_ice, iceB_some, vAppend, fitsB, aFill, aPart, aUn, AV.cells?, AV.isCell, reps, byteC_def, accB, blkB, fr1, List.drop_succ_cons, List.drop_zero, List.drop_nil, vkeep_true, gc, gcIds, reach, grow, idsOfL, idsOf, ddup, gcPush, gcTidy, zipKeep, renL, ren, renId, ixOf, cellsOf, cut_zero, cut_p1, cut_p2, cut_p3, cut_p4, cut_app, cut_app0, cut_app1, cut_push, cut_put_lt, cut_put_ge, cut_ice, new_lt, new_lt2, new_lt3, new_lt4, new_le2, new_le3, new_le4, eqn_a, eqn_b, eqn_c, eqn_d, eqn_e, eqn_f, next_cut, get_cut, put_put, idsOfL_append, renL_append, idsOfL_bytes, idsOfL_strs, idsOfL_ints, renL_bytes, renL_strs, renL_ints, frzL_bytes, frzL_strs, frzL_ints, frzL_drop, frzL_take, idsOfL_drop, idsOfL_take, renL_drop, renL_take, toBytes_map, toBytes_drop, toBytes_take, toBytes_td, idsOf_byteC, ren_byteC, frz_byteC, next_empty, loadOk, ofList, isList, bornL, bornX, bornXO, bornOf, bornPut_some, bornPut_none, bornP, known, knownL, AV.same, List.all_cons, List.all_nil, List.drop_zero, List.isEmpty_cons, List.isEmpty_nil, thawed, vSlice, vSliceA, aSlice, aBoundO, aBound, aShift, aSliceStr, c2, c3, c4, c5, c6, kn, h1, h2, h3, h4, h5, h7, h8, tb, tb0, take_map, h0, h9, h6', hk2, hk3, hbl, hbig, ht, fz, ok_none, ok_push, ok_ice, ok_empty]

end numsBack
end Go.Proofs.Ytecjbeljchbihaa
