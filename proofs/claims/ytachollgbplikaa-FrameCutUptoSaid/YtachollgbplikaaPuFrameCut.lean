/- FrameCut in V. -/
import Derived.Test.YtachollgbplikaaQCut
import Derived.Test.YtachollgbplikaaAm33
set_option linter.all false
set_option linter.unusedSimpArgs false
namespace Go.Proofs.Ytachollgbplikaa
namespace frameCut

abbrev lstT (z : List UInt8) : AV := .list 1 z.length (z.map byteC) true
abbrev stW (r : List (List UInt8)) (B : List UInt8) (k a w : Int) : Fast := [(5, lstL r), (6, lstT B), (7, .int .i64 k), (8, .int .i64 a), (9, .int .i64 w)]

section
variable {kn K d : Nat} (hk : isKn kn = true) (hK : 1099511627776 < K) (H : Heap) (hH : H.Ok) (r : List (List UInt8)) (hr8 : r.length ≤ 8) (hr : ∀ z ∈ r, z.length ≤ 200) (B : List UInt8)

include hk hK hH hr8 hr in
theorem w_round (k a w : Nat) (hw : w < r.length) (hk' : k ≤ 1048576) (ha : a ≤ k) :
    VR5_0 (vcall kn vtab K (d + 3 + 1)) K (fr1 H) (stW r B k a w, H) =
      some (match cStep k (a, w) r[w] with
        | .inl s => .inl (stW r B k s.1 s.2, H)
        | .inr s => .inr (.exit 0, stW r B k s.1 s.2, H)) := by
  have hz := hr _ (List.getElem_mem hw)
  have c1 := fun fr H args => call_of (K := K) (d := d + 3) (fr := fr) (args := args) (H := H) hk (f := 23) rfl rfl
  have h1 := fun fr H hH ex e' => lay_spec (K := K) (d := d) hk hK fr H hH [] ex (by simp) [r[w]] e' (by simp) (by simpa using hz)
  have hl : layOf [] [r[w]] = recF r[w] := by rw [layOf_enc]; simp [encF]
  rw [hl] at h1
  have hlen := recF_len r[w]
  have h9 := enc_le9 r[w] hz
  have fzl : ∀ H k e, frz H (k + 1) e (lst r[w]) = some (lst r[w], []) := fun _ _ _ => rfl
  have d1 := idsOfL_lst r
  have d2 := fun m q => renL_lst m q r
  have d3 := fun H n e => frzL_lst H n e r
  have hw1 : IntKind.i64.wrap ((w : Int) + 1) = (w : Int) + 1 := by rw [wrap_i64] <;> omega
  simp only [cStep]
  generalize recF r[w] = Y at *
  have hw2 : IntKind.i64.wrap ((a : Int) + (Y.length : Int)) = (a : Int) + Y.length := by rw [wrap_i64] <;> omega
  simp only [lstE, List.length_cons, List.length_nil, List.map_cons, List.map_nil, Nat.zero_add] at h1
  by_cases c : a + Y.length > k
  · have c' : (k : Int) < (a : Int) + Y.length := by omega
    simp only [if_pos c]
    simp (maxDischargeDepth := 20) [VB5_0, vst_some, vgd_true, vgd_false, vgo_nil, vgo_cons, vgo_guard, bwanted_some, vop_p, vop_l, vop_k, vop_n, vnorm_some, vseqc_normal, vseqc_exit, vseqc_ret, vcondc_true, vcondc_false, vexec_dreg, vdgo_nil, vdgo_p, vdgo_l, vdgo_k, vdgo_n, vdgo_gp, vdgo_gl, vdgo_gk, vdgo_gn, vdp_some, vdl_some, vdk_some, vdn_some, vdw_true, vdw_false, room_zero, room_put, get_room, next_room, get_hide, hide_zero, vexec_skip, vexec_exit, vexec_ret, vexec_reg, vexec_seq, vexec_cond, vexec_block, vexec_loop, blockO_exit, blockO_normal, blockO_ret, vfin_some, vend_normal, vend_ret, vbody_eq, outO_normal, outO_exit, outO_ret, vround_eq, vkeep_false, bkeep_cons, bkeep_nil, bput_some, bput_none, look_cons, look_nil, AOp.sub, POp.sub, LOp.sub, KOp.sub, NOp.sub, AX.sub, AX.subO, AX.ev, vP, vL, vK, vN, vElems, vElemSize, aP, aL, aK, aN, cB_add, cB_sub, cB_mul, cB_eql, cB_neq, cB_lss, cB_leq, cB_gtr, cB_geq, cB_xor, cB_and, cB_or, cS_eql, cS_neq, cS_lss, cS_leq, cS_gtr, cS_geq, aLoad, aBytesStr, aElems, aElemSize, Mk.val, next_push, next_put, get_push, get_put, Heap.read, List.replicate, List.replicate_succ, start, vRes, vResL, vResults, List.headD, vfrz_some, vexit_eq, vexit1_frozen, vexit1_gc, vexit2_some, solV, solL, solz_succ, solz_zero, solF_some, sol1, List.tail_cons, List.tail_nil, frzL_nil, frzL_cons', frzM_some, frz_int, frz_bool, frz_str, frz_nilFunc, frz_undef, frz_list, frz_elem, frz_nilptr, frz_nilmap, frz_fn, frz_ptr, frz_nilslice, frz_func, frz_agg, frz_tuple, frz_slice, frz_acc, frzS_eq, frzTidy_nil, ice_nil, next_ice, get_ice, iceB_some, vAppend, fitsB, aFill, aPart, aUn, AV.cells?, AV.isCell, reps, byteC_def, accB, blkB, fr1, List.drop_succ_cons, List.drop_zero, List.drop_nil, vkeep_true, gc, gcIds, reach, grow, idsOfL, idsOf, ddup, gcPush, gcTidy, zipKeep, renL, ren, renId, ixOf, cellsOf, cut_zero, cut_p1, cut_p2, cut_p3, cut_p4, cut_app, cut_app0, cut_app1, cut_push, cut_put_lt, cut_put_ge, cut_ice, new_lt, new_lt2, new_lt3, new_lt4, new_le2, new_le3, new_le4, eqn_a, eqn_b, eqn_c, eqn_d, eqn_e, eqn_f, next_cut, get_cut, put_put, idsOfL_append, renL_append, idsOfL_bytes, idsOfL_strs, idsOfL_ints, renL_bytes, renL_strs, renL_ints, frzL_bytes, frzL_strs, frzL_ints, frzL_drop, frzL_take, idsOfL_drop, idsOfL_take, renL_drop, renL_take, toBytes_map, toBytes_drop, toBytes_take, toBytes_td, idsOf_byteC, ren_byteC, frz_byteC, next_empty, c1, h1, hw, hw1, hw2, c', fzl, d1, d2, d3, ok_push, ok_ice, hH, cut_self _ hH, ice_new hH]
  · have c' : ¬ (k : Int) < (a : Int) + Y.length := by omega
    simp only [if_neg c]
    simp (maxDischargeDepth := 20) [VB5_0, vst_some, vgd_true, vgd_false, vgo_nil, vgo_cons, vgo_guard, bwanted_some, vop_p, vop_l, vop_k, vop_n, vnorm_some, vseqc_normal, vseqc_exit, vseqc_ret, vcondc_true, vcondc_false, vexec_dreg, vdgo_nil, vdgo_p, vdgo_l, vdgo_k, vdgo_n, vdgo_gp, vdgo_gl, vdgo_gk, vdgo_gn, vdp_some, vdl_some, vdk_some, vdn_some, vdw_true, vdw_false, room_zero, room_put, get_room, next_room, get_hide, hide_zero, vexec_skip, vexec_exit, vexec_ret, vexec_reg, vexec_seq, vexec_cond, vexec_block, vexec_loop, blockO_exit, blockO_normal, blockO_ret, vfin_some, vend_normal, vend_ret, vbody_eq, outO_normal, outO_exit, outO_ret, vround_eq, vkeep_false, bkeep_cons, bkeep_nil, bput_some, bput_none, look_cons, look_nil, AOp.sub, POp.sub, LOp.sub, KOp.sub, NOp.sub, AX.sub, AX.subO, AX.ev, vP, vL, vK, vN, vElems, vElemSize, aP, aL, aK, aN, cB_add, cB_sub, cB_mul, cB_eql, cB_neq, cB_lss, cB_leq, cB_gtr, cB_geq, cB_xor, cB_and, cB_or, cS_eql, cS_neq, cS_lss, cS_leq, cS_gtr, cS_geq, aLoad, aBytesStr, aElems, aElemSize, Mk.val, next_push, next_put, get_push, get_put, Heap.read, List.replicate, List.replicate_succ, start, vRes, vResL, vResults, List.headD, vfrz_some, vexit_eq, vexit1_frozen, vexit1_gc, vexit2_some, solV, solL, solz_succ, solz_zero, solF_some, sol1, List.tail_cons, List.tail_nil, frzL_nil, frzL_cons', frzM_some, frz_int, frz_bool, frz_str, frz_nilFunc, frz_undef, frz_list, frz_elem, frz_nilptr, frz_nilmap, frz_fn, frz_ptr, frz_nilslice, frz_func, frz_agg, frz_tuple, frz_slice, frz_acc, frzS_eq, frzTidy_nil, ice_nil, next_ice, get_ice, iceB_some, vAppend, fitsB, aFill, aPart, aUn, AV.cells?, AV.isCell, reps, byteC_def, accB, blkB, fr1, List.drop_succ_cons, List.drop_zero, List.drop_nil, vkeep_true, gc, gcIds, reach, grow, idsOfL, idsOf, ddup, gcPush, gcTidy, zipKeep, renL, ren, renId, ixOf, cellsOf, cut_zero, cut_p1, cut_p2, cut_p3, cut_p4, cut_app, cut_app0, cut_app1, cut_push, cut_put_lt, cut_put_ge, cut_ice, new_lt, new_lt2, new_lt3, new_lt4, new_le2, new_le3, new_le4, eqn_a, eqn_b, eqn_c, eqn_d, eqn_e, eqn_f, next_cut, get_cut, put_put, idsOfL_append, renL_append, idsOfL_bytes, idsOfL_strs, idsOfL_ints, renL_bytes, renL_strs, renL_ints, frzL_bytes, frzL_strs, frzL_ints, frzL_drop, frzL_take, idsOfL_drop, idsOfL_take, renL_drop, renL_take, toBytes_map, toBytes_drop, toBytes_take, toBytes_td, idsOf_byteC, ren_byteC, frz_byteC, next_empty, c1, h1, hw, hw1, hw2, c', fzl, d1, d2, d3, ok_push, ok_ice, hH, cut_self _ hH, ice_new hH]

include hk hK hH hr8 hr in
theorem w_loop (k : Nat) (hk' : k ≤ 1048576) :
    VU5_0 (vcall kn vtab K (d + 3 + 1)) K (fr1 H) K (stW r B k 0 0, H) = some (.exit 0, stW r B k (cutF r k).2 (cutF r k).1, H) := by
  have hc := c_run r k 0 0 (Nat.zero_le _)
  simp only [Nat.sub_zero, Nat.zero_add] at hc
  have : VU5_0 (vcall kn vtab K (d + 3 + 1)) K (fr1 H) K (stW r B k (0 : Nat) (0 : Nat), H) = some ((fun x : (Nat × Nat) ⊕ (Nat × Nat) => ((Ex.exit 0, stW r B k (outS x).1 (outS x).2, H) : Ex × Fast × Heap)) (runL (cStep k) (0, 0) r)) :=
    vrun_listE (L := r) (st := fun s _ => (stW r B k s.1 s.2, H)) (fin := fun x => (.exit 0, stW r B k (outS x).1 (outS x).2, H)) (step := cStep k)
      (fun s i => s.2 = i ∧ s.1 ≤ k)
      (fun s i s' hi hp he => by
        obtain ⟨a, w⟩ := s
        obtain ⟨rfl, ha⟩ := hp
        have h := w_round (K := K) (d := d) hk hK H hH r hr8 hr B k a w hi hk' ha
        rw [he] at h
        refine ⟨?_, h⟩
        simp only [cStep] at he
        split at he
        · cases he
        · obtain rfl := Sum.inl.inj he
          exact ⟨rfl, by simp only; omega⟩)
      (fun s i e hi hp he => by
        obtain ⟨a, w⟩ := s
        obtain ⟨rfl, ha⟩ := hp
        have h := w_round (K := K) (d := d) hk hK H hH r hr8 hr B k a w hi hk' ha
        rw [he] at h
        exact h)
      (fun s hp => by
        obtain ⟨a, w⟩ := s
        obtain ⟨h1, ha⟩ := hp
        simp only at h1
        subst h1
        have d1 := idsOfL_lst r
        have d2 := fun m q => renL_lst m q r
        have d3 := fun H n e => frzL_lst H n e r
        simp (maxDischargeDepth := 20) [VB5_0, vst_some, vgd_true, vgd_false, vgo_nil, vgo_cons, vgo_guard, bwanted_some, vop_p, vop_l, vop_k, vop_n, vnorm_some, vseqc_normal, vseqc_exit, vseqc_ret, vcondc_true, vcondc_false, vexec_dreg, vdgo_nil, vdgo_p, vdgo_l, vdgo_k, vdgo_n, vdgo_gp, vdgo_gl, vdgo_gk, vdgo_gn, vdp_some, vdl_some, vdk_some, vdn_some, vdw_true, vdw_false, room_zero, room_put, get_room, next_room, get_hide, hide_zero, vexec_skip, vexec_exit, vexec_ret, vexec_reg, vexec_seq, vexec_cond, vexec_block, vexec_loop, blockO_exit, blockO_normal, blockO_ret, vfin_some, vend_normal, vend_ret, vbody_eq, outO_normal, outO_exit, outO_ret, vround_eq, vkeep_false, bkeep_cons, bkeep_nil, bput_some, bput_none, look_cons, look_nil, AOp.sub, POp.sub, LOp.sub, KOp.sub, NOp.sub, AX.sub, AX.subO, AX.ev, vP, vL, vK, vN, vElems, vElemSize, aP, aL, aK, aN, cB_add, cB_sub, cB_mul, cB_eql, cB_neq, cB_lss, cB_leq, cB_gtr, cB_geq, cB_xor, cB_and, cB_or, cS_eql, cS_neq, cS_lss, cS_leq, cS_gtr, cS_geq, aLoad, aBytesStr, aElems, aElemSize, Mk.val, next_push, next_put, get_push, get_put, Heap.read, List.replicate, List.replicate_succ, start, vRes, vResL, vResults, List.headD, vfrz_some, vexit_eq, vexit1_frozen, vexit1_gc, vexit2_some, solV, solL, solz_succ, solz_zero, solF_some, sol1, List.tail_cons, List.tail_nil, frzL_nil, frzL_cons', frzM_some, frz_int, frz_bool, frz_str, frz_nilFunc, frz_undef, frz_list, frz_elem, frz_nilptr, frz_nilmap, frz_fn, frz_ptr, frz_nilslice, frz_func, frz_agg, frz_tuple, frz_slice, frz_acc, frzS_eq, frzTidy_nil, ice_nil, next_ice, get_ice, iceB_some, vAppend, fitsB, aFill, aPart, aUn, AV.cells?, AV.isCell, reps, byteC_def, accB, blkB, fr1, List.drop_succ_cons, List.drop_zero, List.drop_nil, vkeep_true, gc, gcIds, reach, grow, idsOfL, idsOf, ddup, gcPush, gcTidy, zipKeep, renL, ren, renId, ixOf, cellsOf, cut_zero, cut_p1, cut_p2, cut_p3, cut_p4, cut_app, cut_app0, cut_app1, cut_push, cut_put_lt, cut_put_ge, cut_ice, new_lt, new_lt2, new_lt3, new_lt4, new_le2, new_le3, new_le4, eqn_a, eqn_b, eqn_c, eqn_d, eqn_e, eqn_f, next_cut, get_cut, put_put, idsOfL_append, renL_append, idsOfL_bytes, idsOfL_strs, idsOfL_ints, renL_bytes, renL_strs, renL_ints, frzL_bytes, frzL_strs, frzL_ints, frzL_drop, frzL_take, idsOfL_drop, idsOfL_take, renL_drop, renL_take, toBytes_map, toBytes_drop, toBytes_take, toBytes_td, idsOf_byteC, ren_byteC, frz_byteC, next_empty, outS, d1, d2, d3, ok_push, hH, cut_self _ hH, ice_new hH]) r 0 K (0, 0) rfl (Nat.zero_le _) ⟨rfl, Nat.zero_le _⟩ (by omega)
  dsimp only at this
  rw [hc] at this
  exact this

include hK in
theorem m_loop (C : VCalls) (fr : Fr) (w : Nat) (hw : w ≤ r.length) (hr8 : r.length ≤ 8) :
    VU5_1 C K fr K ([(5, lstL r), (6, lstT B), (11, .list 1 w ((r.take w).map lst) false), (67, .int .i64 w), (68, .int .i64 0)], H) = some (.exit 2, [(4, .undef), (5, lstL r), (6, lstT B)], H) :=
  vrun_list (L := List.replicate w ()) (st := fun (_ : Unit) i => ([(5, lstL r), (6, lstT B), (11, .list 1 w ((r.take w).map lst) false), (67, .int .i64 w), (68, .int .i64 i)], H)) (step := fun u _ => u) (fin := fun _ => (.exit 2, [(4, .undef), (5, lstL r), (6, lstT B)], H))
    (fun _ _ => True)
    (fun _ i hi _ => by
      have hi' : i < w := by simpa using hi
      have hir : i < r.length := by omega
      have hwr : IntKind.i64.wrap ((i : Int) + 1) = (i : Int) + 1 := by rw [wrap_i64] <;> omega
      have hm : min w r.length = w := by omega
      have tb := toBytes_map r[i]
      refine ⟨trivial, ?_⟩
      simp (maxDischargeDepth := 20) [VB5_1, vst_some, vgd_true, vgd_false, vgo_nil, vgo_cons, vgo_guard, bwanted_some, vop_p, vop_l, vop_k, vop_n, vnorm_some, vseqc_normal, vseqc_exit, vseqc_ret, vcondc_true, vcondc_false, vexec_dreg, vdgo_nil, vdgo_p, vdgo_l, vdgo_k, vdgo_n, vdgo_gp, vdgo_gl, vdgo_gk, vdgo_gn, vdp_some, vdl_some, vdk_some, vdn_some, vdw_true, vdw_false, room_zero, room_put, get_room, next_room, get_hide, hide_zero, vexec_skip, vexec_exit, vexec_ret, vexec_reg, vexec_seq, vexec_cond, vexec_block, vexec_loop, blockO_exit, blockO_normal, blockO_ret, vfin_some, vend_normal, vend_ret, vbody_eq, outO_normal, outO_exit, outO_ret, vround_eq, vkeep_false, bkeep_cons, bkeep_nil, bput_some, bput_none, look_cons, look_nil, AOp.sub, POp.sub, LOp.sub, KOp.sub, NOp.sub, AX.sub, AX.subO, AX.ev, vP, vL, vK, vN, vElems, vElemSize, aP, aL, aK, aN, cB_add, cB_sub, cB_mul, cB_eql, cB_neq, cB_lss, cB_leq, cB_gtr, cB_geq, cB_xor, cB_and, cB_or, cS_eql, cS_neq, cS_lss, cS_leq, cS_gtr, cS_geq, aLoad, aBytesStr, aElems, aElemSize, Mk.val, next_push, next_put, get_push, get_put, Heap.read, List.replicate, List.replicate_succ, start, vRes, vResL, vResults, List.headD, vfrz_some, vexit_eq, vexit1_frozen, vexit1_gc, vexit2_some, solV, solL, solz_succ, solz_zero, solF_some, sol1, List.tail_cons, List.tail_nil, frzL_nil, frzL_cons', frzM_some, frz_int, frz_bool, frz_str, frz_nilFunc, frz_undef, frz_list, frz_elem, frz_nilptr, frz_nilmap, frz_fn, frz_ptr, frz_nilslice, frz_func, frz_agg, frz_tuple, frz_slice, frz_acc, frzS_eq, frzTidy_nil, ice_nil, next_ice, get_ice, iceB_some, vAppend, fitsB, aFill, aPart, aUn, AV.cells?, AV.isCell, reps, byteC_def, accB, blkB, fr1, List.drop_succ_cons, List.drop_zero, List.drop_nil, loadOk, ofList, isList, bornL, bornX, bornXO, bornOf, bornPut_some, bornPut_none, bornP, known, knownL, AV.same, AV.sameL, List.all_cons, List.all_nil, List.drop_zero, List.isEmpty_cons, List.isEmpty_nil, thawed, hi', hir, hm, hwr, tb])
    (fun _ _ => by simp (maxDischargeDepth := 20) [VB5_1, vst_some, vgd_true, vgd_false, vgo_nil, vgo_cons, vgo_guard, bwanted_some, vop_p, vop_l, vop_k, vop_n, vnorm_some, vseqc_normal, vseqc_exit, vseqc_ret, vcondc_true, vcondc_false, vexec_dreg, vdgo_nil, vdgo_p, vdgo_l, vdgo_k, vdgo_n, vdgo_gp, vdgo_gl, vdgo_gk, vdgo_gn, vdp_some, vdl_some, vdk_some, vdn_some, vdw_true, vdw_false, room_zero, room_put, get_room, next_room, get_hide, hide_zero, vexec_skip, vexec_exit, vexec_ret, vexec_reg, vexec_seq, vexec_cond, vexec_block, vexec_loop, blockO_exit, blockO_normal, blockO_ret, vfin_some, vend_normal, vend_ret, vbody_eq, outO_normal, outO_exit, outO_ret, vround_eq, vkeep_false, bkeep_cons, bkeep_nil, bput_some, bput_none, look_cons, look_nil, AOp.sub, POp.sub, LOp.sub, KOp.sub, NOp.sub, AX.sub, AX.subO, AX.ev, vP, vL, vK, vN, vElems, vElemSize, aP, aL, aK, aN, cB_add, cB_sub, cB_mul, cB_eql, cB_neq, cB_lss, cB_leq, cB_gtr, cB_geq, cB_xor, cB_and, cB_or, cS_eql, cS_neq, cS_lss, cS_leq, cS_gtr, cS_geq, aLoad, aBytesStr, aElems, aElemSize, Mk.val, next_push, next_put, get_push, get_put, Heap.read, List.replicate, List.replicate_succ, start, vRes, vResL, vResults, List.headD, vfrz_some, vexit_eq, vexit1_frozen, vexit1_gc, vexit2_some, solV, solL, solz_succ, solz_zero, solF_some, sol1, List.tail_cons, List.tail_nil, frzL_nil, frzL_cons', frzM_some, frz_int, frz_bool, frz_str, frz_nilFunc, frz_undef, frz_list, frz_elem, frz_nilptr, frz_nilmap, frz_fn, frz_ptr, frz_nilslice, frz_func, frz_agg, frz_tuple, frz_slice, frz_acc, frzS_eq, frzTidy_nil, ice_nil, next_ice, get_ice, iceB_some, vAppend, fitsB, aFill, aPart, aUn, AV.cells?, AV.isCell, reps, byteC_def, accB, blkB, fr1, List.drop_succ_cons, List.drop_zero, List.drop_nil]) (List.replicate w ()) 0 K () rfl (Nat.zero_le _) trivial (by simp; omega)

end

theorem cutF_le : ∀ (r : List (List UInt8)) (k : Nat), (cutF r k).1 ≤ r.length ∧ (cutF r k).2 ≤ k
  | [], k => by simp [cutF]
  | z :: r, k => by
    unfold cutF
    split
    · have := cutF_le r (k - (recF z).length)
      simp only [List.length_cons]
      omega
    · simp

theorem encF_len : ∀ r : List (List UInt8), (∀ z ∈ r, z.length ≤ 200) → (encF r).length ≤ 217 * r.length
  | [], _ => by simp [encF]
  | z :: r, h => by
    have := encF_len r fun y hy => h y (by simp [hy])
    have h9 := enc_le9 z (h z (by simp))
    have hz := h z (by simp)
    have hl := recF_len z
    simp only [encF, List.flatMap_cons, List.length_append, List.length_cons] at this ⊢
    omega

def bD (z : List UInt8) : D := .list (z.map fun b => D.int .u8 b.toNat)
theorem is_bD {d : D} (h : D.is (.list (.int .u8)) d) : ∃ z : List UInt8, d = bD z ∧ True := by
  obtain ⟨l, rfl, h⟩ := h
  obtain ⟨z, rfl⟩ := is_bytes h
  exact ⟨z, rfl, trivial⟩
theorem encL_bD (L : List (List UInt8)) : encL (.list (.int .u8)) (L.map bD) = L.map lst := by
  rw [encL_map (g := fun z => [lst z]) (fun z => by simp [bD, encS, encL_bytes, shSize]), flatMap_one]
theorem bulk_bD {L : List (List UInt8)} {n : Nat} (h : D.bulks (L.map bD) ≤ n) : ∀ z ∈ L, z.length ≤ n := by
  intro z hz
  have h1 := bulks_mem (List.mem_map_of_mem (f := bD) hz)
  have h2 : z.length ≤ D.bulk (bD z) := by
    simp only [bD, D.bulk]
    have := bulks_len (l := z.map fun b => D.int .u8 b.toNat) (by
      intro d hd
      obtain ⟨b, _, rfl⟩ := List.mem_map.1 hd
      simp [D.bulk])
    simp only [List.length_map] at this
    omega
  omega

set_option maxRecDepth 20000 in
set_option maxHeartbeats 8000000 in
theorem pure : VLaw (fun xs => vcall 25 vtab KK 30 fr0 5 xs Heap.empty) [.list (.list (.int .u8)), .int .i64] 1048576 := by
  intro ds hare hb
  obtain ⟨d1, r1, rfl, i1, hare⟩ := are_cons hare
  obtain ⟨d2, r2, rfl, i2, hare⟩ := are_cons hare
  obtain rfl := are_nil hare
  obtain ⟨l, rfl, hl⟩ := i1
  obtain ⟨cut, rfl, hcut⟩ := i2
  obtain ⟨L, rfl, _⟩ := is_map (f := bD) (P := fun _ => True) (fun d hd => is_bD hd) hl
  simp only [D.bulks, D.bulk] at hb
  have hz := bulk_bD (L := L) (n := 1048576) (by omega)
  have hk : isKn 25 = true := rfl
  have hK : 1099511627776 < KK := by decide
  clear hb hl
  have c1 := fun fr H args => call_of (K := KK) (d := 28) (fr := fr) (args := args) (H := H) hk (f := 26) rfl rfl
  have c2 := fun fr H args => call_of (K := KK) (d := 28) (fr := fr) (args := args) (H := H) hk (f := 23) rfl rfl
  have c3 := fun fr H args => call_of (K := KK) (d := 28) (fr := fr) (args := args) (H := H) hk (f := 28) rfl rfl
  have c4 := fun fr H args => call_of (K := KK) (d := 28) (fr := fr) (args := args) (H := H) hk (f := 24) rfl rfl
  have kn := fun fr H => vcall_kn (kn := 25) (K := KK) (d := 28) (fr := fr) (H := H)
  have h1 := fun fr H hH => some_spec (K := KK) (d := 27) hk hK fr H hH L fun z hz' => by have := hz z hz'; omega
  have hr8 : (someL L).length ≤ 8 := by simp [someL]; omega
  have hr : ∀ z ∈ someL L, z.length ≤ 200 := by
    intro z hz'
    obtain ⟨y, _, rfl⟩ := List.mem_map.1 hz'
    rw [List.length_take]; omega
  generalize someL L = r at *
  have h2 := fun fr H hH ex => lay_spec (K := KK) (d := 25) hk hK fr H hH [] ex (by simp) r false hr8 hr
  rw [layOf_enc, List.nil_append] at h2
  have hBl := encF_len r hr
  obtain ⟨k, hk1, hk2⟩ : ∃ k : Nat, cut % (((encF r).length : Int) + 1) = k ∧ k ≤ (encF r).length := by
    have q1 := Int.emod_nonneg cut (show (((encF r).length : Int) + 1) ≠ 0 by omega)
    have q2 := Int.emod_lt_of_pos cut (show 0 < (((encF r).length : Int) + 1) by omega)
    exact ⟨(cut % (((encF r).length : Int) + 1)).toNat, by omega, by omega⟩
  have h3 := fun fr H hH => pick_spec (C := vcall 25 vtab KK 28) (K := KK) fr H hH cut ((encF r).length + 1) (by omega) hcut (by omega)
  have h4 := w_loop (K := KK) (d := 25) hk hK Heap.empty ok_empty r hr8 hr (encF r) k (by omega)
  have h5 := fun fr H hH ex => read_spec (K := KK) (d := 23) hk hK fr H hH ((encF r).take k) ex (by rw [List.length_take]; omega)
  have h6 := fun fr H hH => read_spec (K := KK) (d := 23) hk hK fr H hH (encF r) true (by omega)
  rw [readR_cut r hr] at h5
  rw [readR_all r hr] at h6
  have hcl := cutF_le r k
  have h7 := fun fr => m_loop (K := KK) hK Heap.empty r (encF r) (vcall 25 vtab KK 29) fr (cutF r k).1 hcl.1 hr8
  have w2 : IntKind.i64.wrap (((encF r).length : Int) + 1) = ((encF r).length : Int) + 1 := by rw [wrap_i64] <;> omega
  have hmk : min k (encF r).length = k := by omega
  have hmw : min (cutF r k).1 r.length = (cutF r k).1 := by omega
  have f1 := idsOfL_lst r
  have f2 := fun m q => renL_lst m q r
  have f3 := fun H n e => frzL_lst H n e r
  have g1 := idsOfL_lst L
  have g2 := fun m q => renL_lst m q L
  have g3 := fun H n e => frzL_lst H n e L
  generalize encF r = B at *
  generalize hcw : (cutF r k).1 = w at *
  generalize (cutF r k).2 = a at *
  simp only [lstE, stW, lstL, lstT, lst, List.length_take, List.map_take, hmk, hmw, fr1, List.length_nil, List.map_nil] at h1 h2 h3 h4 h5 h6 h7
  rw [show Heap.empty.next = 0 from rfl] at h4
  simp only [Nat.reduceAdd] at h1 h2 h3 h4 h5 h6 h7
  refine ⟨Heap.empty, ?_⟩
  simp only [List.map_cons, List.map_nil, encArgs, encArg, encS, encL_bD, List.headD, shSize, List.length_map]
  rw [call_of hk (f := 5) rfl rfl]
  simp (maxDischargeDepth := 20) [vst_some, vgd_true, vgd_false, vgo_nil, vgo_cons, vgo_guard, bwanted_some, vop_p, vop_l, vop_k, vop_n, vnorm_some, vseqc_normal, vseqc_exit, vseqc_ret, vcondc_true, vcondc_false, vexec_dreg, vdgo_nil, vdgo_p, vdgo_l, vdgo_k, vdgo_n, vdgo_gp, vdgo_gl, vdgo_gk, vdgo_gn, vdp_some, vdl_some, vdk_some, vdn_some, vdw_true, vdw_false, room_zero, room_put, get_room, next_room, get_hide, hide_zero, vexec_skip, vexec_exit, vexec_ret, vexec_reg, vexec_seq, vexec_cond, vexec_block, vexec_loop, blockO_exit, blockO_normal, blockO_ret, vfin_some, vend_normal, vend_ret, vbody_eq, outO_normal, outO_exit, outO_ret, vround_eq, vkeep_false, bkeep_cons, bkeep_nil, bput_some, bput_none, look_cons, look_nil, AOp.sub, POp.sub, LOp.sub, KOp.sub, NOp.sub, AX.sub, AX.subO, AX.ev, vP, vL, vK, vN, vElems, vElemSize, aP, aL, aK, aN, cB_add, cB_sub, cB_mul, cB_eql, cB_neq, cB_lss, cB_leq, cB_gtr, cB_geq, cB_xor, cB_and, cB_or, cS_eql, cS_neq, cS_lss, cS_leq, cS_gtr, cS_geq, aLoad, aBytesStr, aElems, aElemSize, Mk.val, next_push, next_put, get_push, get_put, Heap.read, List.replicate, List.replicate_succ, start, vRes, vResL, vResults, List.headD, vfrz_some, vexit_eq, vexit1_frozen, vexit1_gc, vexit2_some, solV, solL, solz_succ, solz_zero, solF_some, sol1, List.tail_cons, List.tail_nil, frzL_nil, frzL_cons', frzM_some, frz_int, frz_bool, frz_str, frz_nilFunc, frz_undef, frz_list, frz_elem, frz_nilptr, frz_nilmap, frz_fn, frz_ptr, frz_nilslice, frz_func, frz_agg, frz_tuple, frz_slice, frz_acc, frzS_eq, frzTidy_nil, ice_nil, next_ice, get_ice, iceB_some, vAppend, fitsB, aFill, aPart, aUn, AV.cells?, AV.isCell, reps, byteC_def, accB, blkB, fr1, List.drop_succ_cons, List.drop_zero, List.drop_nil, vkeep_true, gc, gcIds, reach, grow, idsOfL, idsOf, ddup, gcPush, gcTidy, zipKeep, renL, ren, renId, ixOf, cellsOf, cut_zero, cut_p1, cut_p2, cut_p3, cut_p4, cut_app, cut_app0, cut_app1, cut_push, cut_put_lt, cut_put_ge, cut_ice, new_lt, new_lt2, new_lt3, new_lt4, new_le2, new_le3, new_le4, eqn_a, eqn_b, eqn_c, eqn_d, eqn_e, eqn_f, next_cut, get_cut, put_put, idsOfL_append, renL_append, idsOfL_bytes, idsOfL_strs, idsOfL_ints, renL_bytes, renL_strs, renL_ints, frzL_bytes, frzL_strs, frzL_ints, frzL_drop, frzL_take, idsOfL_drop, idsOfL_take, renL_drop, renL_take, toBytes_map, toBytes_drop, toBytes_take, toBytes_td, idsOf_byteC, ren_byteC, frz_byteC, next_empty, g1, g2, g3]
  rw [body_bare rfl rfl]
  simp (maxDischargeDepth := 20) [VF5, vst_some, vgd_true, vgd_false, vgo_nil, vgo_cons, vgo_guard, bwanted_some, vop_p, vop_l, vop_k, vop_n, vnorm_some, vseqc_normal, vseqc_exit, vseqc_ret, vcondc_true, vcondc_false, vexec_dreg, vdgo_nil, vdgo_p, vdgo_l, vdgo_k, vdgo_n, vdgo_gp, vdgo_gl, vdgo_gk, vdgo_gn, vdp_some, vdl_some, vdk_some, vdn_some, vdw_true, vdw_false, room_zero, room_put, get_room, next_room, get_hide, hide_zero, vexec_skip, vexec_exit, vexec_ret, vexec_reg, vexec_seq, vexec_cond, vexec_block, vexec_loop, blockO_exit, blockO_normal, blockO_ret, vfin_some, vend_normal, vend_ret, vbody_eq, outO_normal, outO_exit, outO_ret, vround_eq, vkeep_false, bkeep_cons, bkeep_nil, bput_some, bput_none, look_cons, look_nil, AOp.sub, POp.sub, LOp.sub, KOp.sub, NOp.sub, AX.sub, AX.subO, AX.ev, vP, vL, vK, vN, vElems, vElemSize, aP, aL, aK, aN, cB_add, cB_sub, cB_mul, cB_eql, cB_neq, cB_lss, cB_leq, cB_gtr, cB_geq, cB_xor, cB_and, cB_or, cS_eql, cS_neq, cS_lss, cS_leq, cS_gtr, cS_geq, aLoad, aBytesStr, aElems, aElemSize, Mk.val, next_push, next_put, get_push, get_put, Heap.read, List.replicate, List.replicate_succ, start, vRes, vResL, vResults, List.headD, vfrz_some, vexit_eq, vexit1_frozen, vexit1_gc, vexit2_some, solV, solL, solz_succ, solz_zero, solF_some, sol1, List.tail_cons, List.tail_nil, frzL_nil, frzL_cons', frzM_some, frz_int, frz_bool, frz_str, frz_nilFunc, frz_undef, frz_list, frz_elem, frz_nilptr, frz_nilmap, frz_fn, frz_ptr, frz_nilslice, frz_func, frz_agg, frz_tuple, frz_slice, frz_acc, frzS_eq, frzTidy_nil, ice_nil, next_ice, get_ice, iceB_some, vAppend, fitsB, aFill, aPart, aUn, AV.cells?, AV.isCell, reps, byteC_def, accB, blkB, fr1, List.drop_succ_cons, List.drop_zero, List.drop_nil, vkeep_true, gc, gcIds, reach, grow, idsOfL, idsOf, ddup, gcPush, gcTidy, zipKeep, renL, ren, renId, ixOf, cellsOf, cut_zero, cut_p1, cut_p2, cut_p3, cut_p4, cut_app, cut_app0, cut_app1, cut_push, cut_put_lt, cut_put_ge, cut_ice, new_lt, new_lt2, new_lt3, new_lt4, new_le2, new_le3, new_le4, eqn_a, eqn_b, eqn_c, eqn_d, eqn_e, eqn_f, next_cut, get_cut, put_put, idsOfL_append, renL_append, idsOfL_bytes, idsOfL_strs, idsOfL_ints, renL_bytes, renL_strs, renL_ints, frzL_bytes, frzL_strs, frzL_ints, frzL_drop, frzL_take, idsOfL_drop, idsOfL_take, renL_drop, renL_take, toBytes_map, toBytes_drop, toBytes_take, toBytes_td, idsOf_byteC, ren_byteC, frz_byteC, next_empty, loadOk, ofList, isList, bornL, bornX, bornXO, bornOf, bornPut_some, bornPut_none, bornP, known, knownL, AV.same, AV.sameL, List.all_cons, List.all_nil, List.drop_zero, List.isEmpty_cons, List.isEmpty_nil, thawed, vSlice, vSliceA, aSlice, aBoundO, aBound, aShift, aSliceStr, c1, c2, c3, c4, kn, h1, h2, h3, h4, h5, h6, h7, w2, hk1, hk2, f1, f2, f3, g1, g2, g3, ok_push, ok_ice, ok_empty]

end frameCut
end Go.Proofs.Ytachollgbplikaa
