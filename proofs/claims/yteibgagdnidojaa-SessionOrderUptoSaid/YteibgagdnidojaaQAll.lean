/- session: All. -/
import Derived.Test.YteibgagdnidojaaQSess
import Derived.Test.YteibgagdnidojaaAm33
set_option linter.all false
set_option linter.unusedSimpArgs false
namespace Go.Proofs.Yteibgagdnidojaa

abbrev accS (H : Heap) (p : List Sx) : AV := .acc H.next 0 4 p.length true
abbrev blkS (H : Heap) (p : List Sx) : Heap := H.push (.cells (tbl p) false true)

theorem tbl_drop (l : List Sx) (i : Nat) (hi : i < l.length) : (tbl l).drop (i * 4) = sxC l[i] ++ tbl (l.drop (i + 1)) :=
  drop_flat (sz := 4) (fun _ => rfl) l i hi
theorem tbl_len (l : List Sx) : (tbl l).length = l.length * 4 := length_flat (f := sxC) (sz := 4) (fun _ => rfl) l
theorem tbl_app (p : List Sx) (x : Sx) : tbl (p ++ [x]) = tbl p ++ sxC x := by simp [tbl]
theorem tbl_flat (l : List Sx) : ∀ c ∈ tbl l, c.flat = true := by
  intro c hc
  obtain ⟨x, _, h⟩ := List.mem_flatMap.1 hc
  simp only [sxC, List.mem_cons, List.not_mem_nil, or_false] at h
  rcases h with rfl | rfl | rfl | rfl <;> rfl
theorem idsOfL_tbl (l : List Sx) : idsOfL (tbl l) = [] := idsOfL_flat (tbl_flat l)
theorem renL_tbl (m : Nat) (p : List Nat) (l : List Sx) : renL m p (tbl l) = tbl l := renL_flat (tbl_flat l)
theorem tbl_still (l : List Sx) : ∀ c ∈ tbl l, c.still = true := by
  intro c hc
  obtain ⟨x, _, h⟩ := List.mem_flatMap.1 hc
  simp only [sxC, List.mem_cons, List.not_mem_nil, or_false] at h
  rcases h with rfl | rfl | rfl | rfl <;> rfl
theorem frzL_tbl (H : Heap) (n : Nat) (e : Bool) (l : List Sx) : frzL (frz H n e) (tbl l) = some (tbl l, []) := frzL_still fun c hc => frz_still (tbl_still l c hc)

theorem all_round {C : VCalls} {K : Nat} (H : Heap) (hH : H.Ok) (b : Nat) (l : List Sx) (hl : l.length = 4) (sl : Bool) (hb : H.get b = some (.cells (tbl l) false sl)) (i : Nat) (hi : i < 4) (p : List Sx) (hp : p.length ≤ 4) :
    VR40_0 C K { mark := H.next, tidy := [b] } ([(3, accS H p), (9, .agg (tbl l)), (10, .int .i64 i)], blkS H p) =
      some (.inl ([(3, accS H (p ++ if 0 < (l[i]'(by omega)).q then [l[i]'(by omega)] else [])), (9, .agg (tbl l)), (10, .int .i64 (i + 1 : Nat))], blkS H (p ++ if 0 < (l[i]'(by omega)).q then [l[i]'(by omega)] else []))) := by
  have hlt := lt_of_get hH hb
  have hn := ne_new0 hH hb
  have hn1 := ne_new hH hb
  have hn2 := ne_new2 hH hb
  have hn3 := ne_new3 hH hb
  have hle := le_new hH hb
  have hsame := put_same H b _ hb
  have hd := tbl_drop l i (by omega)
  generalize l[i]'(by omega) = x at *
  generalize tbl (l.drop (i + 1)) = R at hd
  have i4 : (i : Int) < 4 := by omega
  have hwr : IntKind.i64.wrap ((i : Int) + 1) = (i : Int) + 1 := by rw [wrap_i64] <;> omega
  have f1 := idsOfL_tbl l
  have f2 := fun m p => renL_tbl m p l
  have f3 := fun H n e => frzL_tbl H n e l
  have g1 := idsOfL_tbl p
  have g2 := fun m q => renL_tbl m q p
  have g3 := fun H n e => frzL_tbl H n e p
  have hpl := tbl_len p
  obtain ⟨c, q, w, v⟩ := x
  simp only [sxC, List.cons_append, List.nil_append] at hd
  by_cases h : 0 < q
  · have w3 : p.length + 1 ≤ 70368744177664 ∧ (p.length + 1) * 40 ≤ 70368744177664 := by omega
    have hta := tbl_app p ⟨c, q, w, v⟩
    simp only [sxC] at hta
    simp (maxDischargeDepth := 20) [VB40_0, vst_some, vgd_true, vgd_false, vgo_nil, vgo_cons, vgo_guard, bwanted_some, vop_p, vop_l, vop_k, vop_n, vnorm_some, vseqc_normal, vseqc_exit, vseqc_ret, vcondc_true, vcondc_false, vexec_dreg, vdgo_nil, vdgo_p, vdgo_l, vdgo_k, vdgo_n, vdgo_gp, vdgo_gl, vdgo_gk, vdgo_gn, vdp_some, vdl_some, vdk_some, vdn_some, vdw_true, vdw_false, room_zero, room_put, get_room, next_room, get_hide, hide_zero, vexec_skip, vexec_exit, vexec_ret, vexec_reg, vexec_seq, vexec_cond, vexec_block, vexec_loop, blockO_exit, blockO_normal, blockO_ret, vfin_some, vend_normal, vend_ret, vbody_eq, outO_normal, outO_exit, outO_ret, vround_eq, vkeep_false, bkeep_cons, bkeep_nil, bput_some, bput_none, look_cons, look_nil, AOp.sub, POp.sub, LOp.sub, KOp.sub, NOp.sub, AX.sub, AX.subO, AX.ev, vP, vL, vK, vN, vElems, vElemSize, aP, aL, aK, aN, cB_add, cB_sub, cB_mul, cB_eql, cB_neq, cB_lss, cB_leq, cB_gtr, cB_geq, cB_xor, cB_and, cB_or, cS_eql, cS_neq, cS_lss, cS_leq, cS_gtr, cS_geq, aLoad, aBytesStr, aElems, aElemSize, Mk.val, next_push, next_put, get_push, get_put, Heap.read, List.replicate, List.replicate_succ, start, vRes, vResL, vResults, List.headD, vfrz_some, vexit_eq, vexit1_frozen, vexit1_gc, vexit2_some, solV, solL, solz_succ, solz_zero, solF_some, sol1, List.tail_cons, List.tail_nil, frzL_nil, frzL_cons', frzM_some, frz_int, frz_bool, frz_str, frz_nilFunc, frz_undef, frz_list, frz_elem, frz_nilptr, frz_nilmap, frz_fn, frz_ptr, frz_nilslice, frz_func, frz_agg, frz_tuple, frz_slice, frz_acc, frzS_eq, frzTidy_nil, ice_nil, next_ice, get_ice, iceB_some, vAppend, fitsB, aFill, aPart, aUn, AV.cells?, AV.isCell, reps, byteC_def, accB, blkB, fr1, List.drop_succ_cons, List.drop_zero, List.drop_nil, vkeep_true, gc, gcIds, reach, grow, idsOfL, idsOf, ddup, gcPush, gcTidy, zipKeep, renL, ren, renId, ixOf, cellsOf, cut_zero, cut_p1, cut_p2, cut_p3, cut_p4, cut_app, cut_app0, cut_app1, cut_push, cut_put_lt, cut_put_ge, cut_ice, new_lt, new_lt2, new_lt3, new_lt4, new_le2, new_le3, new_le4, eqn_a, eqn_b, eqn_c, eqn_d, eqn_e, eqn_f, next_cut, get_cut, put_put, idsOfL_append, renL_append, idsOfL_bytes, idsOfL_strs, idsOfL_ints, renL_bytes, renL_strs, renL_ints, frzL_bytes, frzL_strs, frzL_ints, frzL_drop, frzL_take, idsOfL_drop, idsOfL_take, renL_drop, renL_take, toBytes_map, toBytes_drop, toBytes_take, toBytes_td, idsOf_byteC, ren_byteC, frz_byteC, next_empty, frzTidy, okStore, aStore, ptrOk, Heap.write, aEqKs, aEqK, aEqP, accS, blkS, hd, i4, hwr, h, hb, hlt, hn, hn1, hn2, hn3, hle, hsame, f1, f2, f3, g1, g2, g3, hpl, w3, hta, ok_push, hH, cut_self _ hH, ice_new hH]
  · simp (maxDischargeDepth := 20) [VB40_0, vst_some, vgd_true, vgd_false, vgo_nil, vgo_cons, vgo_guard, bwanted_some, vop_p, vop_l, vop_k, vop_n, vnorm_some, vseqc_normal, vseqc_exit, vseqc_ret, vcondc_true, vcondc_false, vexec_dreg, vdgo_nil, vdgo_p, vdgo_l, vdgo_k, vdgo_n, vdgo_gp, vdgo_gl, vdgo_gk, vdgo_gn, vdp_some, vdl_some, vdk_some, vdn_some, vdw_true, vdw_false, room_zero, room_put, get_room, next_room, get_hide, hide_zero, vexec_skip, vexec_exit, vexec_ret, vexec_reg, vexec_seq, vexec_cond, vexec_block, vexec_loop, blockO_exit, blockO_normal, blockO_ret, vfin_some, vend_normal, vend_ret, vbody_eq, outO_normal, outO_exit, outO_ret, vround_eq, vkeep_false, bkeep_cons, bkeep_nil, bput_some, bput_none, look_cons, look_nil, AOp.sub, POp.sub, LOp.sub, KOp.sub, NOp.sub, AX.sub, AX.subO, AX.ev, vP, vL, vK, vN, vElems, vElemSize, aP, aL, aK, aN, cB_add, cB_sub, cB_mul, cB_eql, cB_neq, cB_lss, cB_leq, cB_gtr, cB_geq, cB_xor, cB_and, cB_or, cS_eql, cS_neq, cS_lss, cS_leq, cS_gtr, cS_geq, aLoad, aBytesStr, aElems, aElemSize, Mk.val, next_push, next_put, get_push, get_put, Heap.read, List.replicate, List.replicate_succ, start, vRes, vResL, vResults, List.headD, vfrz_some, vexit_eq, vexit1_frozen, vexit1_gc, vexit2_some, solV, solL, solz_succ, solz_zero, solF_some, sol1, List.tail_cons, List.tail_nil, frzL_nil, frzL_cons', frzM_some, frz_int, frz_bool, frz_str, frz_nilFunc, frz_undef, frz_list, frz_elem, frz_nilptr, frz_nilmap, frz_fn, frz_ptr, frz_nilslice, frz_func, frz_agg, frz_tuple, frz_slice, frz_acc, frzS_eq, frzTidy_nil, ice_nil, next_ice, get_ice, iceB_some, vAppend, fitsB, aFill, aPart, aUn, AV.cells?, AV.isCell, reps, byteC_def, accB, blkB, fr1, List.drop_succ_cons, List.drop_zero, List.drop_nil, vkeep_true, gc, gcIds, reach, grow, idsOfL, idsOf, ddup, gcPush, gcTidy, zipKeep, renL, ren, renId, ixOf, cellsOf, cut_zero, cut_p1, cut_p2, cut_p3, cut_p4, cut_app, cut_app0, cut_app1, cut_push, cut_put_lt, cut_put_ge, cut_ice, new_lt, new_lt2, new_lt3, new_lt4, new_le2, new_le3, new_le4, eqn_a, eqn_b, eqn_c, eqn_d, eqn_e, eqn_f, next_cut, get_cut, put_put, idsOfL_append, renL_append, idsOfL_bytes, idsOfL_strs, idsOfL_ints, renL_bytes, renL_strs, renL_ints, frzL_bytes, frzL_strs, frzL_ints, frzL_drop, frzL_take, idsOfL_drop, idsOfL_take, renL_drop, renL_take, toBytes_map, toBytes_drop, toBytes_take, toBytes_td, idsOf_byteC, ren_byteC, frz_byteC, next_empty, frzTidy, okStore, aStore, ptrOk, Heap.write, aEqKs, aEqK, aEqP, accS, blkS, hd, i4, hwr, h, hb, hlt, hn, hn1, hn2, hn3, hle, hsame, f1, f2, f3, g1, g2, g3, hpl, ok_push, hH, cut_self _ hH, ice_new hH]

def allT (l : List Sx) : List Sx := l.filter fun x => decide (0 < x.q)

theorem clipS_at {kn K d : Nat} (hk : isKn kn = true) (fr : Fr) (H : Heap) (b n : Nat) :
    vcall kn vtab K (d + 1) fr 78 [.acc b 0 4 n true] H = some (.acc b 0 4 n true, H) := by
  rw [sum_of hk rfl rfl (g := clipSem 4) rfl]
  simp [clipSem]

theorem all_end {C : VCalls} {K : Nat} (H : Heap) (hH : H.Ok) (b : Nat) (l : List Sx) (sl : Bool) (hb : H.get b = some (.cells (tbl l) false sl)) (p : List Sx) :
    VR40_0 C K { mark := H.next, tidy := [b] } ([(3, accS H p), (9, .agg (tbl l)), (10, .int .i64 4)], blkS H p) = some (.inr (.exit 0, [(3, accS H p)], blkS H p)) := by
  have hlt := lt_of_get hH hb
  have hn := ne_new0 hH hb
  have hn1 := ne_new hH hb
  have hle := le_new hH hb
  have hsame := put_same H b _ hb
  have f1 := idsOfL_tbl l
  have f2 := fun m p => renL_tbl m p l
  have f3 := fun H n e => frzL_tbl H n e l
  have g1 := idsOfL_tbl p
  have g2 := fun m q => renL_tbl m q p
  have g3 := fun H n e => frzL_tbl H n e p
  simp (maxDischargeDepth := 20) [VB40_0, vst_some, vgd_true, vgd_false, vgo_nil, vgo_cons, vgo_guard, bwanted_some, vop_p, vop_l, vop_k, vop_n, vnorm_some, vseqc_normal, vseqc_exit, vseqc_ret, vcondc_true, vcondc_false, vexec_dreg, vdgo_nil, vdgo_p, vdgo_l, vdgo_k, vdgo_n, vdgo_gp, vdgo_gl, vdgo_gk, vdgo_gn, vdp_some, vdl_some, vdk_some, vdn_some, vdw_true, vdw_false, room_zero, room_put, get_room, next_room, get_hide, hide_zero, vexec_skip, vexec_exit, vexec_ret, vexec_reg, vexec_seq, vexec_cond, vexec_block, vexec_loop, blockO_exit, blockO_normal, blockO_ret, vfin_some, vend_normal, vend_ret, vbody_eq, outO_normal, outO_exit, outO_ret, vround_eq, vkeep_false, bkeep_cons, bkeep_nil, bput_some, bput_none, look_cons, look_nil, AOp.sub, POp.sub, LOp.sub, KOp.sub, NOp.sub, AX.sub, AX.subO, AX.ev, vP, vL, vK, vN, vElems, vElemSize, aP, aL, aK, aN, cB_add, cB_sub, cB_mul, cB_eql, cB_neq, cB_lss, cB_leq, cB_gtr, cB_geq, cB_xor, cB_and, cB_or, cS_eql, cS_neq, cS_lss, cS_leq, cS_gtr, cS_geq, aLoad, aBytesStr, aElems, aElemSize, Mk.val, next_push, next_put, get_push, get_put, Heap.read, List.replicate, List.replicate_succ, start, vRes, vResL, vResults, List.headD, vfrz_some, vexit_eq, vexit1_frozen, vexit1_gc, vexit2_some, solV, solL, solz_succ, solz_zero, solF_some, sol1, List.tail_cons, List.tail_nil, frzL_nil, frzL_cons', frzM_some, frz_int, frz_bool, frz_str, frz_nilFunc, frz_undef, frz_list, frz_elem, frz_nilptr, frz_nilmap, frz_fn, frz_ptr, frz_nilslice, frz_func, frz_agg, frz_tuple, frz_slice, frz_acc, frzS_eq, frzTidy_nil, ice_nil, next_ice, get_ice, iceB_some, vAppend, fitsB, aFill, aPart, aUn, AV.cells?, AV.isCell, reps, byteC_def, accB, blkB, fr1, List.drop_succ_cons, List.drop_zero, List.drop_nil, vkeep_true, gc, gcIds, reach, grow, idsOfL, idsOf, ddup, gcPush, gcTidy, zipKeep, renL, ren, renId, ixOf, cellsOf, cut_zero, cut_p1, cut_p2, cut_p3, cut_p4, cut_app, cut_app0, cut_app1, cut_push, cut_put_lt, cut_put_ge, cut_ice, new_lt, new_lt2, new_lt3, new_lt4, new_le2, new_le3, new_le4, eqn_a, eqn_b, eqn_c, eqn_d, eqn_e, eqn_f, next_cut, get_cut, put_put, idsOfL_append, renL_append, idsOfL_bytes, idsOfL_strs, idsOfL_ints, renL_bytes, renL_strs, renL_ints, frzL_bytes, frzL_strs, frzL_ints, frzL_drop, frzL_take, idsOfL_drop, idsOfL_take, renL_drop, renL_take, toBytes_map, toBytes_drop, toBytes_take, toBytes_td, idsOf_byteC, ren_byteC, frz_byteC, next_empty, frzTidy, okStore, aStore, ptrOk, Heap.write, aEqKs, aEqK, aEqP, accS, blkS, hb, hlt, hn, hn1, hle, hsame, f1, f2, f3, g1, g2, g3, ok_push, hH, cut_self _ hH, ice_new hH]

theorem all_loop {C : VCalls} {K K0 : Nat} (H : Heap) (hH : H.Ok) (b : Nat) (l : List Sx) (hl : l.length = 4) (sl : Bool) (hb : H.get b = some (.cells (tbl l) false sl)) (hK : 5 ≤ K) :
    VU40_0 C K0 { mark := H.next, tidy := [b] } K ([(3, accS H []), (9, .agg (tbl l)), (10, .int .i64 0)], blkS H []) = some (.exit 0, [(3, accS H (allT l))], blkS H (allT l)) := by
  have e : ∀ (r p : List Sx), r.foldl (fun p x => p ++ if 0 < x.q then [x] else []) p = p ++ allT r := by
    intro r
    induction r with
    | nil => intro p; simp [allT]
    | cons x r ih => intro p; rw [List.foldl_cons, ih]; by_cases h : 0 < x.q <;> simp [allT, h]
  have := vrun_list (body := vexec C K0 { mark := H.next, tidy := [b] } _ VB40_0) (L := l) (st := fun p i => ([(3, accS H p), (9, .agg (tbl l)), (10, .int .i64 i)], blkS H p)) (step := fun p x => p ++ if 0 < x.q then [x] else []) (fin := fun p => (.exit 0, [(3, accS H p)], blkS H p))
    (fun p i => p.length ≤ i)
    (fun p i hi hp => by
      refine ⟨by simp only [List.length_append]; split <;> simp <;> omega, ?_⟩
      exact all_round H hH b l hl sl hb i (by omega) p (by omega))
    (fun p _ => by rw [hl]; exact all_end H hH b l sl hb p) l 0 K [] rfl (Nat.zero_le _) (Nat.le_refl _) (by omega)
  rw [e] at this
  exact this

theorem all_spec {kn K d : Nat} (hk : isKn kn = true) (hK : 5 ≤ K) (fr : Fr) (H : Heap) (hH : H.Ok) (b : Nat) (l : List Sx) (hl : l.length = 4) (sl : Bool) (hb : H.get b = some (.cells (tbl l) false sl)) (hw : fr.mark ≤ b ∨ b ∈ fr.tidy) :
    vcallB (vcall kn vtab K (d + 1)) vtab K fr 40 [.ptr (some (b, 0))] H = some (.list 4 (allT l).length (tbl (allT l)) false, H) := by
  rw [body_full rfl rfl]
  have h1 := all_loop (C := vcall kn vtab K (d + 1)) (K0 := K) H hH b l hl sl hb hK
  have hlt := lt_of_get hH hb
  have hn := ne_new0 hH hb
  have hn1 := ne_new hH hb
  have hle := le_new hH hb
  have hsame := put_same H b _ hb
  have hr : reach H (idsOfL [.ptr (some (b, 0))]) = [b] := by
    simp only [reach, grow, idsOfL, idsOf, cellsOf, hb, idsOfL_tbl, List.flatMap_cons, List.flatMap_nil, List.append_nil, List.nil_append, List.cons_append]
  have c1 := fun fr H b n => clipS_at (K := K) (d := d) hk fr H b n
  have f1 := idsOfL_tbl l
  have f2 := fun m p => renL_tbl m p l
  have f3 := fun H n e => frzL_tbl H n e l
  generalize allT l = p at *
  have g1 := idsOfL_tbl p
  have g2 := fun m q => renL_tbl m q p
  have g3 := fun H n e => frzL_tbl H n e p
  have hpl := tbl_len l
  have hpp := tbl_len p
  have ht : List.take 16 (tbl l) = tbl l := List.take_of_length_le (by omega)
  have ht2 : List.take (p.length * 4) (tbl p) = tbl p := List.take_of_length_le (by omega)
  have h0 : (tbl l).length = 16 := by omega
  simp only [accS, blkS, List.length_nil, show tbl [] = [] from rfl] at h1
  simp (maxDischargeDepth := 20) [VF40, vst_some, vgd_true, vgd_false, vgo_nil, vgo_cons, vgo_guard, bwanted_some, vop_p, vop_l, vop_k, vop_n, vnorm_some, vseqc_normal, vseqc_exit, vseqc_ret, vcondc_true, vcondc_false, vexec_dreg, vdgo_nil, vdgo_p, vdgo_l, vdgo_k, vdgo_n, vdgo_gp, vdgo_gl, vdgo_gk, vdgo_gn, vdp_some, vdl_some, vdk_some, vdn_some, vdw_true, vdw_false, room_zero, room_put, get_room, next_room, get_hide, hide_zero, vexec_skip, vexec_exit, vexec_ret, vexec_reg, vexec_seq, vexec_cond, vexec_block, vexec_loop, blockO_exit, blockO_normal, blockO_ret, vfin_some, vend_normal, vend_ret, vbody_eq, outO_normal, outO_exit, outO_ret, vround_eq, vkeep_false, bkeep_cons, bkeep_nil, bput_some, bput_none, look_cons, look_nil, AOp.sub, POp.sub, LOp.sub, KOp.sub, NOp.sub, AX.sub, AX.subO, AX.ev, vP, vL, vK, vN, vElems, vElemSize, aP, aL, aK, aN, cB_add, cB_sub, cB_mul, cB_eql, cB_neq, cB_lss, cB_leq, cB_gtr, cB_geq, cB_xor, cB_and, cB_or, cS_eql, cS_neq, cS_lss, cS_leq, cS_gtr, cS_geq, aLoad, aBytesStr, aElems, aElemSize, Mk.val, next_push, next_put, get_push, get_put, Heap.read, List.replicate, List.replicate_succ, start, vRes, vResL, vResults, List.headD, vfrz_some, vexit_eq, vexit1_frozen, vexit1_gc, vexit2_some, solV, solL, solz_succ, solz_zero, solF_some, sol1, List.tail_cons, List.tail_nil, frzL_nil, frzL_cons', frzM_some, frz_int, frz_bool, frz_str, frz_nilFunc, frz_undef, frz_list, frz_elem, frz_nilptr, frz_nilmap, frz_fn, frz_ptr, frz_nilslice, frz_func, frz_agg, frz_tuple, frz_slice, frz_acc, frzS_eq, frzTidy_nil, ice_nil, next_ice, get_ice, iceB_some, vAppend, fitsB, aFill, aPart, aUn, AV.cells?, AV.isCell, reps, byteC_def, accB, blkB, fr1, List.drop_succ_cons, List.drop_zero, List.drop_nil, frzTidy, okStore, aStore, ptrOk, Heap.write, aEqKs, aEqK, aEqP, vkeep_true, gc, gcIds, reach, grow, idsOfL, idsOf, ddup, gcPush, gcTidy, zipKeep, renL, ren, renId, ixOf, cellsOf, cut_zero, cut_p1, cut_p2, cut_p3, cut_p4, cut_app, cut_app0, cut_app1, cut_push, cut_put_lt, cut_put_ge, cut_ice, new_lt, new_lt2, new_lt3, new_lt4, new_le2, new_le3, new_le4, eqn_a, eqn_b, eqn_c, eqn_d, eqn_e, eqn_f, next_cut, get_cut, put_put, idsOfL_append, renL_append, idsOfL_bytes, idsOfL_strs, idsOfL_ints, renL_bytes, renL_strs, renL_ints, frzL_bytes, frzL_strs, frzL_ints, frzL_drop, frzL_take, idsOfL_drop, idsOfL_take, renL_drop, renL_take, toBytes_map, toBytes_drop, toBytes_take, toBytes_td, idsOf_byteC, ren_byteC, frz_byteC, next_empty, hb, hw, hlt, hn, hn1, hle, hsame, hr, h1, c1, f1, f2, f3, g1, g2, g3, ht, ht2, h0, hpp, ok_push, hH, cut_self _ hH, ice_new hH]

end Go.Proofs.Yteibgagdnidojaa
