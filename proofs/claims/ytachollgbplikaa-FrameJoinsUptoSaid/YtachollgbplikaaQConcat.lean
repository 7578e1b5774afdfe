/- slices.Grow, slices.Concat: what they come to. -/
import Derived.Test.YtachollgbplikaaQBase
set_option linter.all false
set_option linter.unusedSimpArgs false
namespace Go.Proofs.Ytachollgbplikaa

theorem reps_len (z : AV) : ∀ n, (reps n [z]).length = n
  | 0 => rfl
  | n + 1 => by simp [reps, reps_len z n]
theorem reps_eq (z : AV) : ∀ n, reps n [z] = List.replicate n z
  | 0 => rfl
  | n + 1 => by simp [reps, reps_eq z n, List.replicate_succ]


theorem grow_spec {C : VCalls} {K : Nat} (fr : Fr) (H : Heap) (hH : H.Ok) (N : Nat) (hN : N ≤ 1099511627776) :
    vcallB C vtab K fr 117 [.slice none 1 0 0 true, .int .i64 N] H =
      some (if N = 0 then (.acc H.next 0 1 0 true, H.push (.cells [] false true)) else (.slice (some (H.next, 0)) 1 0 N false, H.push (.cells (reps N [.int .u8 0]) false true))) := by
  rw [body_bare rfl rfl]
  have w0 : IntKind.i64.wrap 0 = 0 := by rw [wrap_i64] <;> omega
  have hi2 : (N : Int) ≤ 70368744177664 := by omega
  have hz : ((N : Int) < 0) = False := eq_false (by omega)
  have wN : IntKind.i64.wrap (N : Int) = N := by rw [wrap_i64] <;> omega
  by_cases h : N = 0
  · subst h
    simp (maxDischargeDepth := 20) [VF117, vst_some, vgd_true, vgd_false, vgo_nil, vgo_cons, vgo_guard, bwanted_some, vop_p, vop_l, vop_k, vop_n, vnorm_some, vseqc_normal, vseqc_exit, vseqc_ret, vcondc_true, vcondc_false, vexec_dreg, vdgo_nil, vdgo_p, vdgo_l, vdgo_k, vdgo_n, vdgo_gp, vdgo_gl, vdgo_gk, vdgo_gn, vdp_some, vdl_some, vdk_some, vdn_some, vdw_true, vdw_false, room_zero, room_put, get_room, next_room, get_hide, hide_zero, vexec_skip, vexec_exit, vexec_ret, vexec_reg, vexec_seq, vexec_cond, vexec_block, vexec_loop, blockO_exit, blockO_normal, blockO_ret, vfin_some, vend_normal, vend_ret, vbody_eq, outO_normal, outO_exit, outO_ret, vround_eq, vkeep_false, bkeep_cons, bkeep_nil, bput_some, bput_none, look_cons, look_nil, AOp.sub, POp.sub, LOp.sub, KOp.sub, NOp.sub, AX.sub, AX.subO, AX.ev, vP, vL, vK, vN, vElems, vElemSize, aP, aL, aK, aN, cB_add, cB_sub, cB_mul, cB_eql, cB_neq, cB_lss, cB_leq, cB_gtr, cB_geq, cB_xor, cB_and, cB_or, cS_eql, cS_neq, cS_lss, cS_leq, cS_gtr, cS_geq, aLoad, aBytesStr, aElems, aElemSize, Mk.val, next_push, next_put, get_push, get_put, Heap.read, List.replicate, List.replicate_succ, start, vRes, vResL, vResults, List.headD, vfrz_some, vexit_eq, vexit1_frozen, vexit1_gc, vexit2_some, solV, solL, solz_succ, solz_zero, solF_some, sol1, List.tail_cons, List.tail_nil, frzL_nil, frzL_cons', frzM_some, frz_int, frz_bool, frz_str, frz_nilFunc, frz_undef, frz_list, frz_elem, frz_nilptr, frz_nilmap, frz_fn, frz_ptr, frz_nilslice, frz_func, frz_agg, frz_tuple, frz_slice, frz_acc, frzS_eq, frzTidy_nil, ice_nil, next_ice, get_ice, iceB_some, vAppend, fitsB, aFill, aPart, aUn, AV.cells?, AV.isCell, reps, byteC_def, accB, blkB, fr1, List.drop_succ_cons, List.drop_zero, List.drop_nil, vkeep_true, gc, gcIds, reach, grow, idsOfL, idsOf, ddup, gcPush, gcTidy, zipKeep, renL, ren, renId, ixOf, cellsOf, cut_zero, cut_p1, cut_p2, cut_p3, cut_p4, cut_app, cut_app0, cut_app1, cut_push, cut_put_lt, cut_put_ge, cut_ice, new_lt, new_lt2, new_lt3, new_lt4, new_le2, new_le3, new_le4, eqn_a, eqn_b, eqn_c, eqn_d, eqn_e, eqn_f, next_cut, get_cut, put_put, idsOfL_append, renL_append, idsOfL_bytes, idsOfL_strs, idsOfL_ints, renL_bytes, renL_strs, renL_ints, frzL_bytes, frzL_strs, frzL_ints, frzL_drop, frzL_take, idsOfL_drop, idsOfL_take, renL_drop, renL_take, toBytes_map, toBytes_drop, toBytes_take, toBytes_td, idsOf_byteC, ren_byteC, frz_byteC, next_empty, vSlice, vSliceA, aSlice, aBoundO, aBound, aShift, aSliceStr, w0, ok_push, hH, cut_self _ hH, ice_new hH]
  · rw [if_neg h]
    have h1 : 0 < N := by omega
    have h2 : N ≤ 70368744177664 := by omega
    have h3 : N ≤ 281474976710656 := by omega
    have hr := reps_len (.int .u8 0) N
    have hi : idsOfL (reps N [.int .u8 0]) = [] := by rw [reps_eq]; exact idsOfL_flat fun c hc => by rw [(List.mem_replicate.1 hc).2]; rfl
    have hn : ∀ m p, renL m p (reps N [.int .u8 0]) = reps N [.int .u8 0] := fun m p => by rw [reps_eq]; exact renL_flat fun c hc => by rw [(List.mem_replicate.1 hc).2]; rfl
    have e0 : (0 = N) = False := eq_false (by omega)
    have e1 : (N = 0) = False := eq_false (by omega)
    simp (maxDischargeDepth := 20) [VF117, vst_some, vgd_true, vgd_false, vgo_nil, vgo_cons, vgo_guard, bwanted_some, vop_p, vop_l, vop_k, vop_n, vnorm_some, vseqc_normal, vseqc_exit, vseqc_ret, vcondc_true, vcondc_false, vexec_dreg, vdgo_nil, vdgo_p, vdgo_l, vdgo_k, vdgo_n, vdgo_gp, vdgo_gl, vdgo_gk, vdgo_gn, vdp_some, vdl_some, vdk_some, vdn_some, vdw_true, vdw_false, room_zero, room_put, get_room, next_room, get_hide, hide_zero, vexec_skip, vexec_exit, vexec_ret, vexec_reg, vexec_seq, vexec_cond, vexec_block, vexec_loop, blockO_exit, blockO_normal, blockO_ret, vfin_some, vend_normal, vend_ret, vbody_eq, outO_normal, outO_exit, outO_ret, vround_eq, vkeep_false, bkeep_cons, bkeep_nil, bput_some, bput_none, look_cons, look_nil, AOp.sub, POp.sub, LOp.sub, KOp.sub, NOp.sub, AX.sub, AX.subO, AX.ev, vP, vL, vK, vN, vElems, vElemSize, aP, aL, aK, aN, cB_add, cB_sub, cB_mul, cB_eql, cB_neq, cB_lss, cB_leq, cB_gtr, cB_geq, cB_xor, cB_and, cB_or, cS_eql, cS_neq, cS_lss, cS_leq, cS_gtr, cS_geq, aLoad, aBytesStr, aElems, aElemSize, Mk.val, next_push, next_put, get_push, get_put, Heap.read, List.replicate, List.replicate_succ, start, vRes, vResL, vResults, List.headD, vfrz_some, vexit_eq, vexit1_frozen, vexit1_gc, vexit2_some, solV, solL, solz_succ, solz_zero, solF_some, sol1, List.tail_cons, List.tail_nil, frzL_nil, frzL_cons', frzM_some, frz_int, frz_bool, frz_str, frz_nilFunc, frz_undef, frz_list, frz_elem, frz_nilptr, frz_nilmap, frz_fn, frz_ptr, frz_nilslice, frz_func, frz_agg, frz_tuple, frz_slice, frz_acc, frzS_eq, frzTidy_nil, ice_nil, next_ice, get_ice, iceB_some, vAppend, fitsB, aFill, aPart, aUn, AV.cells?, AV.isCell, reps, byteC_def, accB, blkB, fr1, List.drop_succ_cons, List.drop_zero, List.drop_nil, vkeep_true, gc, gcIds, reach, grow, idsOfL, idsOf, ddup, gcPush, gcTidy, zipKeep, renL, ren, renId, ixOf, cellsOf, cut_zero, cut_p1, cut_p2, cut_p3, cut_p4, cut_app, cut_app0, cut_app1, cut_push, cut_put_lt, cut_put_ge, cut_ice, new_lt, new_lt2, new_lt3, new_lt4, new_le2, new_le3, new_le4, eqn_a, eqn_b, eqn_c, eqn_d, eqn_e, eqn_f, next_cut, get_cut, put_put, idsOfL_append, renL_append, idsOfL_bytes, idsOfL_strs, idsOfL_ints, renL_bytes, renL_strs, renL_ints, frzL_bytes, frzL_strs, frzL_ints, frzL_drop, frzL_take, idsOfL_drop, idsOfL_take, renL_drop, renL_take, toBytes_map, toBytes_drop, toBytes_take, toBytes_td, idsOf_byteC, ren_byteC, frz_byteC, next_empty, vSlice, vSliceA, aSlice, aBoundO, aBound, aShift, aSliceStr, w0, wN, hz, hi2, h, h1, h2, h3, hr, hi, hn, e0, e1, ok_push, hH, cut_self _ hH, ice_new hH]

/-! ### Concat -/

/-- A part. -/
abbrev pC (p : List UInt8 × Bool) : AV := .list 1 p.1.length (p.1.map byteC) p.2
def catL (L : List (List UInt8 × Bool)) : List UInt8 := L.flatMap Prod.fst
abbrev lP (L : List (List UInt8 × Bool)) (ex : Bool) : AV := .list 1 L.length (L.map pC) ex

theorem cat_len (C : VCalls) (K0 K : Nat) (fr : Fr) (H : Heap) (L : List (List UInt8 × Bool)) (ex : Bool) (hL : L.length ≤ 1099511627776) (hK : 1099511627776 < K) (hn : (catL L).length ≤ 1099511627776) :
    VU81_0 C K0 fr K ([(0, lP L ex), (3, .int .i64 0), (9, lP L ex), (10, .int .i64 L.length), (11, .int .i64 0)], H) = some (.exit 0, [(0, lP L ex), (3, .int .i64 (catL L).length)], H) := by
  have e : ∀ (r : List (List UInt8 × Bool)) (n : Nat), r.foldl (fun n p => n + p.1.length) n = n + (catL r).length := by
    intro r
    induction r with
    | nil => intro n; simp [catL]
    | cons p r ih => intro n; rw [List.foldl_cons, ih]; simp only [catL, List.flatMap_cons, List.length_append]; omega
  have hs : ∀ i, i ≤ L.length → (catL (L.take i)).length ≤ (catL L).length := by
    intro i _
    have : catL L = catL (L.take i) ++ catL (L.drop i) := by simp only [catL]; rw [← List.flatMap_append, List.take_append_drop]
    rw [this, List.length_append]
    omega
  have : VU81_0 C K0 fr K ([(0, lP L ex), (3, .int .i64 0), (9, lP L ex), (10, .int .i64 L.length), (11, .int .i64 0)], H) = some (.exit 0, [(0, lP L ex), (3, .int .i64 (L.foldl (fun n p => n + p.1.length) 0 : Nat))], H) := vrun_list (L := L) (st := fun (n : Nat) i => ([(0, lP L ex), (3, .int .i64 n), (9, lP L ex), (10, .int .i64 L.length), (11, .int .i64 i)], H)) (step := fun n p => n + p.1.length) (fin := fun n => (.exit 0, [(0, lP L ex), (3, .int .i64 n)], H))
    (fun n i => n = (catL (L.take i)).length)
    (fun n i hi hn' => by
      have h1 : n + L[i].1.length = (catL (L.take (i + 1))).length := by
        rw [hn', List.take_succ_eq_append_getElem hi]
        simp only [catL, List.flatMap_append, List.length_append, List.flatMap_cons, List.flatMap_nil, List.append_nil]
      have h2 := hs (i + 1) (by omega)
      refine ⟨h1, ?_⟩
      have hw : IntKind.i64.wrap ((i : Int) + 1) = (i : Int) + 1 := by rw [wrap_i64] <;> omega
      have hw2 : IntKind.i64.wrap ((n : Int) + (L[i].1.length : Int)) = (n : Int) + L[i].1.length := by rw [wrap_i64] <;> omega
      have hz : ((n : Int) + (L[i].1.length : Int) < 0) = False := eq_false (by omega)
      simp (maxDischargeDepth := 20) [VB81_0, vst_some, vgd_true, vgd_false, vgo_nil, vgo_cons, vgo_guard, bwanted_some, vop_p, vop_l, vop_k, vop_n, vnorm_some, vseqc_normal, vseqc_exit, vseqc_ret, vcondc_true, vcondc_false, vexec_dreg, vdgo_nil, vdgo_p, vdgo_l, vdgo_k, vdgo_n, vdgo_gp, vdgo_gl, vdgo_gk, vdgo_gn, vdp_some, vdl_some, vdk_some, vdn_some, vdw_true, vdw_false, room_zero, room_put, get_room, next_room, get_hide, hide_zero, vexec_skip, vexec_exit, vexec_ret, vexec_reg, vexec_seq, vexec_cond, vexec_block, vexec_loop, blockO_exit, blockO_normal, blockO_ret, vfin_some, vend_normal, vend_ret, vbody_eq, outO_normal, outO_exit, outO_ret, vround_eq, vkeep_false, bkeep_cons, bkeep_nil, bput_some, bput_none, look_cons, look_nil, AOp.sub, POp.sub, LOp.sub, KOp.sub, NOp.sub, AX.sub, AX.subO, AX.ev, vP, vL, vK, vN, vElems, vElemSize, aP, aL, aK, aN, cB_add, cB_sub, cB_mul, cB_eql, cB_neq, cB_lss, cB_leq, cB_gtr, cB_geq, cB_xor, cB_and, cB_or, cS_eql, cS_neq, cS_lss, cS_leq, cS_gtr, cS_geq, aLoad, aBytesStr, aElems, aElemSize, Mk.val, next_push, next_put, get_push, get_put, Heap.read, List.replicate, List.replicate_succ, start, vRes, vResL, vResults, List.headD, vfrz_some, vexit_eq, vexit1_frozen, vexit1_gc, vexit2_some, solV, solL, solz_succ, solz_zero, solF_some, sol1, List.tail_cons, List.tail_nil, frzL_nil, frzL_cons', frzM_some, frz_int, frz_bool, frz_str, frz_nilFunc, frz_undef, frz_list, frz_elem, frz_nilptr, frz_nilmap, frz_fn, frz_ptr, frz_nilslice, frz_func, frz_agg, frz_tuple, frz_slice, frz_acc, frzS_eq, frzTidy_nil, ice_nil, next_ice, get_ice, iceB_some, vAppend, fitsB, aFill, aPart, aUn, AV.cells?, AV.isCell, reps, byteC_def, accB, blkB, fr1, List.drop_succ_cons, List.drop_zero, List.drop_nil, hi, hw, hw2, hz])
    (fun n _ => by simp (maxDischargeDepth := 20) [VB81_0, vst_some, vgd_true, vgd_false, vgo_nil, vgo_cons, vgo_guard, bwanted_some, vop_p, vop_l, vop_k, vop_n, vnorm_some, vseqc_normal, vseqc_exit, vseqc_ret, vcondc_true, vcondc_false, vexec_dreg, vdgo_nil, vdgo_p, vdgo_l, vdgo_k, vdgo_n, vdgo_gp, vdgo_gl, vdgo_gk, vdgo_gn, vdp_some, vdl_some, vdk_some, vdn_some, vdw_true, vdw_false, room_zero, room_put, get_room, next_room, get_hide, hide_zero, vexec_skip, vexec_exit, vexec_ret, vexec_reg, vexec_seq, vexec_cond, vexec_block, vexec_loop, blockO_exit, blockO_normal, blockO_ret, vfin_some, vend_normal, vend_ret, vbody_eq, outO_normal, outO_exit, outO_ret, vround_eq, vkeep_false, bkeep_cons, bkeep_nil, bput_some, bput_none, look_cons, look_nil, AOp.sub, POp.sub, LOp.sub, KOp.sub, NOp.sub, AX.sub, AX.subO, AX.ev, vP, vL, vK, vN, vElems, vElemSize, aP, aL, aK, aN, cB_add, cB_sub, cB_mul, cB_eql, cB_neq, cB_lss, cB_leq, cB_gtr, cB_geq, cB_xor, cB_and, cB_or, cS_eql, cS_neq, cS_lss, cS_leq, cS_gtr, cS_geq, aLoad, aBytesStr, aElems, aElemSize, Mk.val, next_push, next_put, get_push, get_put, Heap.read, List.replicate, List.replicate_succ, start, vRes, vResL, vResults, List.headD, vfrz_some, vexit_eq, vexit1_frozen, vexit1_gc, vexit2_some, solV, solL, solz_succ, solz_zero, solF_some, sol1, List.tail_cons, List.tail_nil, frzL_nil, frzL_cons', frzM_some, frz_int, frz_bool, frz_str, frz_nilFunc, frz_undef, frz_list, frz_elem, frz_nilptr, frz_nilmap, frz_fn, frz_ptr, frz_nilslice, frz_func, frz_agg, frz_tuple, frz_slice, frz_acc, frzS_eq, frzTidy_nil, ice_nil, next_ice, get_ice, iceB_some, vAppend, fitsB, aFill, aPart, aUn, AV.cells?, AV.isCell, reps, byteC_def, accB, blkB, fr1, List.drop_succ_cons, List.drop_zero, List.drop_nil]) L 0 K 0 rfl (Nat.zero_le _) rfl (by omega)
  rw [e, Nat.zero_add] at this
  exact this

def catA (H : Heap) (s : List UInt8) (N : Nat) : AV := if s.length = N then .acc H.next 0 1 N true else .slice (some (H.next, 0)) 1 s.length N false
def catC (s : List UInt8) (N : Nat) : List AV := s.map byteC ++ reps (N - s.length) [.int .u8 0]
abbrev catB (H : Heap) (s : List UInt8) (N : Nat) : Heap := H.push (.cells (catC s N) false true)

theorem catC_len (s : List UInt8) (N : Nat) (h : s.length ≤ N) : (catC s N).length = N := by
  simp only [catC, List.length_append, List.length_map, reps_len]; omega
theorem catC_flat (s : List UInt8) (N : Nat) : ∀ c ∈ catC s N, c.flat = true := by
  intro c hc
  rcases List.mem_append.1 hc with h | h
  · exact flat_bytes s c h
  · rw [reps_eq] at h; rw [(List.mem_replicate.1 h).2]; rfl
theorem catC_write (s z : List UInt8) (N : Nat) (h : s.length + z.length ≤ N) : (catC s N).take s.length ++ z.map byteC ++ (catC s N).drop (s.length + z.length) = catC (s ++ z) N := by
  have h1 : (catC s N).take s.length = s.map byteC := by
    unfold catC
    rw [List.take_append_of_le_length (by simp), List.take_of_length_le (by simp)]
  have h2 : (catC s N).drop (s.length + z.length) = reps (N - (s.length + z.length)) [.int .u8 0] := by
    unfold catC
    rw [List.drop_append, List.drop_eq_nil_of_le (by simp), List.nil_append, reps_eq, reps_eq, List.drop_replicate]
    congr 1
    simp only [List.length_map]
    omega
  rw [h1, h2]
  simp only [catC, List.map_append, List.length_append, List.append_assoc]

theorem cat_round (C : VCalls) (K : Nat) (H : Heap) (hH : H.Ok) (L : List (List UInt8 × Bool)) (ex : Bool) (i : Nat) (hi : i < L.length) (hL : L.length ≤ 1099511627776) (s : List UInt8) (N : Nat) (hN : N ≤ 1099511627776) (hs : s.length + L[i].1.length ≤ N) :
    VR81_1 C K (fr1 H) ([(6, catA H s N), (25, lP L ex), (26, .int .i64 L.length), (27, .int .i64 i)], catB H s N) =
      some (.inl ([(6, catA H (s ++ L[i].1) N), (25, lP L ex), (26, .int .i64 L.length), (27, .int .i64 (i + 1 : Nat))], catB H (s ++ L[i].1) N)) := by
  have hw : IntKind.i64.wrap ((i : Int) + 1) = (i : Int) + 1 := by rw [wrap_i64] <;> omega
  have hc := catC_len s N (by omega)
  have hc2 := catC_len (s ++ L[i].1) N (by rw [List.length_append]; omega)
  have hwr := catC_write s L[i].1 N hs
  rw [List.append_assoc] at hwr
  have a1 := idsOfL_flat (catC_flat s N)
  have a2 := fun m p => renL_flat (m := m) (p := p) (catC_flat s N)
  have b1 := idsOfL_flat (catC_flat (s ++ L[i].1) N)
  have b2 := fun m p => renL_flat (m := m) (p := p) (catC_flat (s ++ L[i].1) N)
  have hst : ∀ c ∈ L.map pC, c.still = true := by
    intro c hc
    obtain ⟨p, _, rfl⟩ := List.mem_map.1 hc
    rfl
  have hft : ∀ c ∈ L.map pC, c.flat = true := by
    intro c hc
    obtain ⟨p, _, rfl⟩ := List.mem_map.1 hc
    rfl
  have d1 := idsOfL_flat hft
  have d2 := fun m p => renL_flat (m := m) (p := p) hft
  have d3 := fun H n e => frzL_still (g := frz H n e) fun c hc => frz_still (hst c hc)
  by_cases hz : L[i].1 = []
  · have hz0 : L[i].1.length = 0 := by rw [hz]; rfl
    have hz1 : L[i].1.map byteC = [] := by rw [hz]; rfl
    rw [hz, List.append_nil]
    unfold catA
    by_cases hf : s.length = N
    · rw [if_pos hf]
      simp (maxDischargeDepth := 20) [VB81_1, vst_some, vgd_true, vgd_false, vgo_nil, vgo_cons, vgo_guard, bwanted_some, vop_p, vop_l, vop_k, vop_n, vnorm_some, vseqc_normal, vseqc_exit, vseqc_ret, vcondc_true, vcondc_false, vexec_dreg, vdgo_nil, vdgo_p, vdgo_l, vdgo_k, vdgo_n, vdgo_gp, vdgo_gl, vdgo_gk, vdgo_gn, vdp_some, vdl_some, vdk_some, vdn_some, vdw_true, vdw_false, room_zero, room_put, get_room, next_room, get_hide, hide_zero, vexec_skip, vexec_exit, vexec_ret, vexec_reg, vexec_seq, vexec_cond, vexec_block, vexec_loop, blockO_exit, blockO_normal, blockO_ret, vfin_some, vend_normal, vend_ret, vbody_eq, outO_normal, outO_exit, outO_ret, vround_eq, vkeep_false, bkeep_cons, bkeep_nil, bput_some, bput_none, look_cons, look_nil, AOp.sub, POp.sub, LOp.sub, KOp.sub, NOp.sub, AX.sub, AX.subO, AX.ev, vP, vL, vK, vN, vElems, vElemSize, aP, aL, aK, aN, cB_add, cB_sub, cB_mul, cB_eql, cB_neq, cB_lss, cB_leq, cB_gtr, cB_geq, cB_xor, cB_and, cB_or, cS_eql, cS_neq, cS_lss, cS_leq, cS_gtr, cS_geq, aLoad, aBytesStr, aElems, aElemSize, Mk.val, next_push, next_put, get_push, get_put, Heap.read, List.replicate, List.replicate_succ, start, vRes, vResL, vResults, List.headD, vfrz_some, vexit_eq, vexit1_frozen, vexit1_gc, vexit2_some, solV, solL, solz_succ, solz_zero, solF_some, sol1, List.tail_cons, List.tail_nil, frzL_nil, frzL_cons', frzM_some, frz_int, frz_bool, frz_str, frz_nilFunc, frz_undef, frz_list, frz_elem, frz_nilptr, frz_nilmap, frz_fn, frz_ptr, frz_nilslice, frz_func, frz_agg, frz_tuple, frz_slice, frz_acc, frzS_eq, frzTidy_nil, ice_nil, next_ice, get_ice, iceB_some, vAppend, fitsB, aFill, aPart, aUn, AV.cells?, AV.isCell, reps, byteC_def, accB, blkB, fr1, List.drop_succ_cons, List.drop_zero, List.drop_nil, vkeep_true, gc, gcIds, reach, grow, idsOfL, idsOf, ddup, gcPush, gcTidy, zipKeep, renL, ren, renId, ixOf, cellsOf, cut_zero, cut_p1, cut_p2, cut_p3, cut_p4, cut_app, cut_app0, cut_app1, cut_push, cut_put_lt, cut_put_ge, cut_ice, new_lt, new_lt2, new_lt3, new_lt4, new_le2, new_le3, new_le4, eqn_a, eqn_b, eqn_c, eqn_d, eqn_e, eqn_f, next_cut, get_cut, put_put, idsOfL_append, renL_append, idsOfL_bytes, idsOfL_strs, idsOfL_ints, renL_bytes, renL_strs, renL_ints, frzL_bytes, frzL_strs, frzL_ints, frzL_drop, frzL_take, idsOfL_drop, idsOfL_take, renL_drop, renL_take, toBytes_map, toBytes_drop, toBytes_take, toBytes_td, idsOf_byteC, ren_byteC, frz_byteC, next_empty, frzTidy, okStore, aStore, ptrOk, Heap.write, aEqKs, aEqK, aEqP, hi, hw, hz0, hz1, hc, a1, a2, d1, d2, d3, ok_push, hH, cut_self _ hH, ice_new hH]
    · have hf2 : (N = s.length) = False := eq_false (fun e => hf e.symm)
      have hle : (s.length ≤ N) = True := eq_true (by omega)
      rw [if_neg hf]
      simp (maxDischargeDepth := 20) [VB81_1, vst_some, vgd_true, vgd_false, vgo_nil, vgo_cons, vgo_guard, bwanted_some, vop_p, vop_l, vop_k, vop_n, vnorm_some, vseqc_normal, vseqc_exit, vseqc_ret, vcondc_true, vcondc_false, vexec_dreg, vdgo_nil, vdgo_p, vdgo_l, vdgo_k, vdgo_n, vdgo_gp, vdgo_gl, vdgo_gk, vdgo_gn, vdp_some, vdl_some, vdk_some, vdn_some, vdw_true, vdw_false, room_zero, room_put, get_room, next_room, get_hide, hide_zero, vexec_skip, vexec_exit, vexec_ret, vexec_reg, vexec_seq, vexec_cond, vexec_block, vexec_loop, blockO_exit, blockO_normal, blockO_ret, vfin_some, vend_normal, vend_ret, vbody_eq, outO_normal, outO_exit, outO_ret, vround_eq, vkeep_false, bkeep_cons, bkeep_nil, bput_some, bput_none, look_cons, look_nil, AOp.sub, POp.sub, LOp.sub, KOp.sub, NOp.sub, AX.sub, AX.subO, AX.ev, vP, vL, vK, vN, vElems, vElemSize, aP, aL, aK, aN, cB_add, cB_sub, cB_mul, cB_eql, cB_neq, cB_lss, cB_leq, cB_gtr, cB_geq, cB_xor, cB_and, cB_or, cS_eql, cS_neq, cS_lss, cS_leq, cS_gtr, cS_geq, aLoad, aBytesStr, aElems, aElemSize, Mk.val, next_push, next_put, get_push, get_put, Heap.read, List.replicate, List.replicate_succ, start, vRes, vResL, vResults, List.headD, vfrz_some, vexit_eq, vexit1_frozen, vexit1_gc, vexit2_some, solV, solL, solz_succ, solz_zero, solF_some, sol1, List.tail_cons, List.tail_nil, frzL_nil, frzL_cons', frzM_some, frz_int, frz_bool, frz_str, frz_nilFunc, frz_undef, frz_list, frz_elem, frz_nilptr, frz_nilmap, frz_fn, frz_ptr, frz_nilslice, frz_func, frz_agg, frz_tuple, frz_slice, frz_acc, frzS_eq, frzTidy_nil, ice_nil, next_ice, get_ice, iceB_some, vAppend, fitsB, aFill, aPart, aUn, AV.cells?, AV.isCell, reps, byteC_def, accB, blkB, fr1, List.drop_succ_cons, List.drop_zero, List.drop_nil, vkeep_true, gc, gcIds, reach, grow, idsOfL, idsOf, ddup, gcPush, gcTidy, zipKeep, renL, ren, renId, ixOf, cellsOf, cut_zero, cut_p1, cut_p2, cut_p3, cut_p4, cut_app, cut_app0, cut_app1, cut_push, cut_put_lt, cut_put_ge, cut_ice, new_lt, new_lt2, new_lt3, new_lt4, new_le2, new_le3, new_le4, eqn_a, eqn_b, eqn_c, eqn_d, eqn_e, eqn_f, next_cut, get_cut, put_put, idsOfL_append, renL_append, idsOfL_bytes, idsOfL_strs, idsOfL_ints, renL_bytes, renL_strs, renL_ints, frzL_bytes, frzL_strs, frzL_ints, frzL_drop, frzL_take, idsOfL_drop, idsOfL_take, renL_drop, renL_take, toBytes_map, toBytes_drop, toBytes_take, toBytes_td, idsOf_byteC, ren_byteC, frz_byteC, next_empty, frzTidy, okStore, aStore, ptrOk, Heap.write, aEqKs, aEqK, aEqP, hi, hw, hz0, hz1, hc, hf, hf2, hle, a1, a2, d1, d2, d3, ok_push, hH, cut_self _ hH, ice_new hH]
  · have hz0 : (L[i].1.length = 0) = False := eq_false (fun e => hz (List.length_eq_zero_iff.1 e))
    have hf : ¬ s.length = N := by intro e; have : L[i].1.length ≠ 0 := fun e => hz (List.length_eq_zero_iff.1 e); omega
    have hle : (s.length + L[i].1.length ≤ N) = True := eq_true hs
    unfold catA
    rw [if_neg hf, List.length_append]
    by_cases hf2 : s.length + L[i].1.length = N
    · have hf3 : (N = s.length + L[i].1.length) = True := eq_true hf2.symm
      rw [if_pos hf2]
      simp (maxDischargeDepth := 20) [VB81_1, vst_some, vgd_true, vgd_false, vgo_nil, vgo_cons, vgo_guard, bwanted_some, vop_p, vop_l, vop_k, vop_n, vnorm_some, vseqc_normal, vseqc_exit, vseqc_ret, vcondc_true, vcondc_false, vexec_dreg, vdgo_nil, vdgo_p, vdgo_l, vdgo_k, vdgo_n, vdgo_gp, vdgo_gl, vdgo_gk, vdgo_gn, vdp_some, vdl_some, vdk_some, vdn_some, vdw_true, vdw_false, room_zero, room_put, get_room, next_room, get_hide, hide_zero, vexec_skip, vexec_exit, vexec_ret, vexec_reg, vexec_seq, vexec_cond, vexec_block, vexec_loop, blockO_exit, blockO_normal, blockO_ret, vfin_some, vend_normal, vend_ret, vbody_eq, outO_normal, outO_exit, outO_ret, vround_eq, vkeep_false, bkeep_cons, bkeep_nil, bput_some, bput_none, look_cons, look_nil, AOp.sub, POp.sub, LOp.sub, KOp.sub, NOp.sub, AX.sub, AX.subO, AX.ev, vP, vL, vK, vN, vElems, vElemSize, aP, aL, aK, aN, cB_add, cB_sub, cB_mul, cB_eql, cB_neq, cB_lss, cB_leq, cB_gtr, cB_geq, cB_xor, cB_and, cB_or, cS_eql, cS_neq, cS_lss, cS_leq, cS_gtr, cS_geq, aLoad, aBytesStr, aElems, aElemSize, Mk.val, next_push, next_put, get_push, get_put, Heap.read, List.replicate, List.replicate_succ, start, vRes, vResL, vResults, List.headD, vfrz_some, vexit_eq, vexit1_frozen, vexit1_gc, vexit2_some, solV, solL, solz_succ, solz_zero, solF_some, sol1, List.tail_cons, List.tail_nil, frzL_nil, frzL_cons', frzM_some, frz_int, frz_bool, frz_str, frz_nilFunc, frz_undef, frz_list, frz_elem, frz_nilptr, frz_nilmap, frz_fn, frz_ptr, frz_nilslice, frz_func, frz_agg, frz_tuple, frz_slice, frz_acc, frzS_eq, frzTidy_nil, ice_nil, next_ice, get_ice, iceB_some, vAppend, fitsB, aFill, aPart, aUn, AV.cells?, AV.isCell, reps, byteC_def, accB, blkB, fr1, List.drop_succ_cons, List.drop_zero, List.drop_nil, vkeep_true, gc, gcIds, reach, grow, idsOfL, idsOf, ddup, gcPush, gcTidy, zipKeep, renL, ren, renId, ixOf, cellsOf, cut_zero, cut_p1, cut_p2, cut_p3, cut_p4, cut_app, cut_app0, cut_app1, cut_push, cut_put_lt, cut_put_ge, cut_ice, new_lt, new_lt2, new_lt3, new_lt4, new_le2, new_le3, new_le4, eqn_a, eqn_b, eqn_c, eqn_d, eqn_e, eqn_f, next_cut, get_cut, put_put, idsOfL_append, renL_append, idsOfL_bytes, idsOfL_strs, idsOfL_ints, renL_bytes, renL_strs, renL_ints, frzL_bytes, frzL_strs, frzL_ints, frzL_drop, frzL_take, idsOfL_drop, idsOfL_take, renL_drop, renL_take, toBytes_map, toBytes_drop, toBytes_take, toBytes_td, idsOf_byteC, ren_byteC, frz_byteC, next_empty, frzTidy, okStore, aStore, ptrOk, Heap.write, aEqKs, aEqK, aEqP, hi, hw, hz0, hc, hc2, hf3, hle, hwr, catB, a1, a2, b1, b2, d1, d2, d3, ok_push, hH, cut_self _ hH, ice_new hH]
      exact hf2
    · have hf3 : (N = s.length + L[i].1.length) = False := eq_false (fun e => hf2 e.symm)
      rw [if_neg hf2]
      simp (maxDischargeDepth := 20) [VB81_1, vst_some, vgd_true, vgd_false, vgo_nil, vgo_cons, vgo_guard, bwanted_some, vop_p, vop_l, vop_k, vop_n, vnorm_some, vseqc_normal, vseqc_exit, vseqc_ret, vcondc_true, vcondc_false, vexec_dreg, vdgo_nil, vdgo_p, vdgo_l, vdgo_k, vdgo_n, vdgo_gp, vdgo_gl, vdgo_gk, vdgo_gn, vdp_some, vdl_some, vdk_some, vdn_some, vdw_true, vdw_false, room_zero, room_put, get_room, next_room, get_hide, hide_zero, vexec_skip, vexec_exit, vexec_ret, vexec_reg, vexec_seq, vexec_cond, vexec_block, vexec_loop, blockO_exit, blockO_normal, blockO_ret, vfin_some, vend_normal, vend_ret, vbody_eq, outO_normal, outO_exit, outO_ret, vround_eq, vkeep_false, bkeep_cons, bkeep_nil, bput_some, bput_none, look_cons, look_nil, AOp.sub, POp.sub, LOp.sub, KOp.sub, NOp.sub, AX.sub, AX.subO, AX.ev, vP, vL, vK, vN, vElems, vElemSize, aP, aL, aK, aN, cB_add, cB_sub, cB_mul, cB_eql, cB_neq, cB_lss, cB_leq, cB_gtr, cB_geq, cB_xor, cB_and, cB_or, cS_eql, cS_neq, cS_lss, cS_leq, cS_gtr, cS_geq, aLoad, aBytesStr, aElems, aElemSize, Mk.val, next_push, next_put, get_push, get_put, Heap.read, List.replicate, List.replicate_succ, start, vRes, vResL, vResults, List.headD, vfrz_some, vexit_eq, vexit1_frozen, vexit1_gc, vexit2_some, solV, solL, solz_succ, solz_zero, solF_some, sol1, List.tail_cons, List.tail_nil, frzL_nil, frzL_cons', frzM_some, frz_int, frz_bool, frz_str, frz_nilFunc, frz_undef, frz_list, frz_elem, frz_nilptr, frz_nilmap, frz_fn, frz_ptr, frz_nilslice, frz_func, frz_agg, frz_tuple, frz_slice, frz_acc, frzS_eq, frzTidy_nil, ice_nil, next_ice, get_ice, iceB_some, vAppend, fitsB, aFill, aPart, aUn, AV.cells?, AV.isCell, reps, byteC_def, accB, blkB, fr1, List.drop_succ_cons, List.drop_zero, List.drop_nil, vkeep_true, gc, gcIds, reach, grow, idsOfL, idsOf, ddup, gcPush, gcTidy, zipKeep, renL, ren, renId, ixOf, cellsOf, cut_zero, cut_p1, cut_p2, cut_p3, cut_p4, cut_app, cut_app0, cut_app1, cut_push, cut_put_lt, cut_put_ge, cut_ice, new_lt, new_lt2, new_lt3, new_lt4, new_le2, new_le3, new_le4, eqn_a, eqn_b, eqn_c, eqn_d, eqn_e, eqn_f, next_cut, get_cut, put_put, idsOfL_append, renL_append, idsOfL_bytes, idsOfL_strs, idsOfL_ints, renL_bytes, renL_strs, renL_ints, frzL_bytes, frzL_strs, frzL_ints, frzL_drop, frzL_take, idsOfL_drop, idsOfL_take, renL_drop, renL_take, toBytes_map, toBytes_drop, toBytes_take, toBytes_td, idsOf_byteC, ren_byteC, frz_byteC, next_empty, frzTidy, okStore, aStore, ptrOk, Heap.write, aEqKs, aEqK, aEqP, hi, hw, hz0, hc, hc2, hf3, hle, hwr, catB, a1, a2, b1, b2, d1, d2, d3, ok_push, hH, cut_self _ hH, ice_new hH]

theorem catL_split (L : List (List UInt8 × Bool)) (i : Nat) (hi : i < L.length) : catL (L.take i) ++ L[i].1 = catL (L.take (i + 1)) ∧ (catL (L.take (i + 1))).length ≤ (catL L).length := by
  have h1 : catL (L.take i) ++ L[i].1 = catL (L.take (i + 1)) := by
    rw [List.take_succ_eq_append_getElem hi]
    simp only [catL, List.flatMap_append, List.flatMap_cons, List.flatMap_nil, List.append_nil]
  refine ⟨h1, ?_⟩
  have : catL L = catL (L.take (i + 1)) ++ catL (L.drop (i + 1)) := by simp only [catL]; rw [← List.flatMap_append, List.take_append_drop]
  rw [this, List.length_append]
  omega

theorem cat_loop (C : VCalls) (K : Nat) (hK : 1099511627776 < K) (H : Heap) (hH : H.Ok) (L : List (List UInt8 × Bool)) (ex : Bool) (hL : L.length ≤ 1099511627776) (hn : (catL L).length ≤ 1099511627776) :
    VU81_1 C K (fr1 H) K ([(6, catA H [] (catL L).length), (25, lP L ex), (26, .int .i64 L.length), (27, .int .i64 0)], catB H [] (catL L).length) = some (.exit 2, [(6, accB H (catL L))], blkB H (catL L)) := by
  have e : ∀ (r : List (List UInt8 × Bool)) (s : List UInt8), r.foldl (fun s p => s ++ p.1) s = s ++ catL r := by
    intro r
    induction r with
    | nil => intro s; simp [catL]
    | cons p r ih => intro s; rw [List.foldl_cons, ih]; simp [catL]
  have hst : ∀ c ∈ L.map pC, c.still = true ∧ c.flat = true := by
    intro c hc
    obtain ⟨p, _, rfl⟩ := List.mem_map.1 hc
    exact ⟨rfl, rfl⟩
  have d1 := idsOfL_flat fun c hc => (hst c hc).2
  have d2 := fun m p => renL_flat (m := m) (p := p) fun c hc => (hst c hc).2
  have d3 := fun H n e => frzL_still (g := frz H n e) fun c hc => frz_still (hst c hc).1
  have : VU81_1 C K (fr1 H) K ([(6, catA H [] (catL L).length), (25, lP L ex), (26, .int .i64 L.length), (27, .int .i64 0)], catB H [] (catL L).length) = some (.exit 2, [(6, catA H (L.foldl (fun s p => s ++ p.1) []) (catL L).length)], catB H (L.foldl (fun s p => s ++ p.1) []) (catL L).length) :=
    vrun_list (L := L) (st := fun s i => ([(6, catA H s (catL L).length), (25, lP L ex), (26, .int .i64 L.length), (27, .int .i64 i)], catB H s (catL L).length)) (step := fun s p => s ++ p.1) (fin := fun s => (.exit 2, [(6, catA H s (catL L).length)], catB H s (catL L).length))
    (fun s i => s = catL (L.take i))
    (fun s i hi hs => by
      obtain ⟨h1, h2⟩ := catL_split L i hi
      refine ⟨by rw [hs]; exact h1, ?_⟩
      have := cat_round C K H hH L ex i hi hL s (catL L).length hn (by rw [← List.length_append, hs, h1]; exact h2)
      exact this)
    (fun s hs => by
      rw [List.take_length] at hs
      subst hs
      have a1 := idsOfL_flat (catC_flat (catL L) (catL L).length)
      have a2 := fun m p => renL_flat (m := m) (p := p) (catC_flat (catL L) (catL L).length)
      have hc := catC_len (catL L) (catL L).length (Nat.le_refl _)
      unfold catA
      rw [if_pos rfl]
      simp (maxDischargeDepth := 20) [VB81_1, vst_some, vgd_true, vgd_false, vgo_nil, vgo_cons, vgo_guard, bwanted_some, vop_p, vop_l, vop_k, vop_n, vnorm_some, vseqc_normal, vseqc_exit, vseqc_ret, vcondc_true, vcondc_false, vexec_dreg, vdgo_nil, vdgo_p, vdgo_l, vdgo_k, vdgo_n, vdgo_gp, vdgo_gl, vdgo_gk, vdgo_gn, vdp_some, vdl_some, vdk_some, vdn_some, vdw_true, vdw_false, room_zero, room_put, get_room, next_room, get_hide, hide_zero, vexec_skip, vexec_exit, vexec_ret, vexec_reg, vexec_seq, vexec_cond, vexec_block, vexec_loop, blockO_exit, blockO_normal, blockO_ret, vfin_some, vend_normal, vend_ret, vbody_eq, outO_normal, outO_exit, outO_ret, vround_eq, vkeep_false, bkeep_cons, bkeep_nil, bput_some, bput_none, look_cons, look_nil, AOp.sub, POp.sub, LOp.sub, KOp.sub, NOp.sub, AX.sub, AX.subO, AX.ev, vP, vL, vK, vN, vElems, vElemSize, aP, aL, aK, aN, cB_add, cB_sub, cB_mul, cB_eql, cB_neq, cB_lss, cB_leq, cB_gtr, cB_geq, cB_xor, cB_and, cB_or, cS_eql, cS_neq, cS_lss, cS_leq, cS_gtr, cS_geq, aLoad, aBytesStr, aElems, aElemSize, Mk.val, next_push, next_put, get_push, get_put, Heap.read, List.replicate, List.replicate_succ, start, vRes, vResL, vResults, List.headD, vfrz_some, vexit_eq, vexit1_frozen, vexit1_gc, vexit2_some, solV, solL, solz_succ, solz_zero, solF_some, sol1, List.tail_cons, List.tail_nil, frzL_nil, frzL_cons', frzM_some, frz_int, frz_bool, frz_str, frz_nilFunc, frz_undef, frz_list, frz_elem, frz_nilptr, frz_nilmap, frz_fn, frz_ptr, frz_nilslice, frz_func, frz_agg, frz_tuple, frz_slice, frz_acc, frzS_eq, frzTidy_nil, ice_nil, next_ice, get_ice, iceB_some, vAppend, fitsB, aFill, aPart, aUn, AV.cells?, AV.isCell, reps, byteC_def, accB, blkB, fr1, List.drop_succ_cons, List.drop_zero, List.drop_nil, vkeep_true, gc, gcIds, reach, grow, idsOfL, idsOf, ddup, gcPush, gcTidy, zipKeep, renL, ren, renId, ixOf, cellsOf, cut_zero, cut_p1, cut_p2, cut_p3, cut_p4, cut_app, cut_app0, cut_app1, cut_push, cut_put_lt, cut_put_ge, cut_ice, new_lt, new_lt2, new_lt3, new_lt4, new_le2, new_le3, new_le4, eqn_a, eqn_b, eqn_c, eqn_d, eqn_e, eqn_f, next_cut, get_cut, put_put, idsOfL_append, renL_append, idsOfL_bytes, idsOfL_strs, idsOfL_ints, renL_bytes, renL_strs, renL_ints, frzL_bytes, frzL_strs, frzL_ints, frzL_drop, frzL_take, idsOfL_drop, idsOfL_take, renL_drop, renL_take, toBytes_map, toBytes_drop, toBytes_take, toBytes_td, idsOf_byteC, ren_byteC, frz_byteC, next_empty, frzTidy, okStore, aStore, ptrOk, Heap.write, aEqKs, aEqK, aEqP, catB, a1, a2, hc, d1, d2, d3, ok_push, hH, cut_self _ hH, ice_new hH]) L 0 K [] rfl (Nat.zero_le _) rfl (by omega)
  rw [e, List.nil_append] at this
  rw [this]
  simp [catA, catB, blkB, catC, reps]

theorem concat_spec {kn K d : Nat} (hk : isKn kn = true) (hK : 1099511627776 < K) (fr : Fr) (H : Heap) (hH : H.Ok) (L : List (List UInt8 × Bool)) (ex : Bool) (hL : L.length ≤ 1099511627776) (hn : (catL L).length ≤ 1099511627776) :
    vcallB (vcall kn vtab K (d + 1)) vtab K fr 81 [lP L ex] H = some (accB H (catL L), blkB H (catL L)) := by
  rw [body_bare rfl rfl]
  have hst : ∀ c ∈ L.map pC, c.still = true ∧ c.flat = true := by
    intro c hc
    obtain ⟨p, _, rfl⟩ := List.mem_map.1 hc
    exact ⟨rfl, rfl⟩
  have d1 := idsOfL_flat fun c hc => (hst c hc).2
  have d2 := fun m p => renL_flat (m := m) (p := p) fun c hc => (hst c hc).2
  have d3 := fun H n e => frzL_still (g := frz H n e) fun c hc => frz_still (hst c hc).1
  have h1 := fun fr => cat_len (vcall kn vtab K (d + 1)) K K fr H L ex hL hK hn
  have h2 := cat_loop (vcall kn vtab K (d + 1)) K hK H hH L ex hL hn
  have c1 := fun fr H args => call_raw (K := K) (d := d) (fr := fr) (args := args) (H := H) hk (f := 117) rfl rfl
  have h3 := fun fr H hH => grow_spec (C := vcall kn vtab K d) (K := K) fr H hH (catL L).length hn
  have hr : ∀ N, idsOfL (reps N [.int .u8 0]) = [] := fun N => by rw [reps_eq]; exact idsOfL_flat fun c hc => by rw [(List.mem_replicate.1 hc).2]; rfl
  have hrn : ∀ N m p, renL m p (reps N [.int .u8 0]) = reps N [.int .u8 0] := fun N m p => by rw [reps_eq]; exact renL_flat fun c hc => by rw [(List.mem_replicate.1 hc).2]; rfl
  have hrl := fun N => reps_len (.int .u8 0) N
  generalize catL L = s at *
  by_cases h0 : s.length = 0
  · have h3' : ∀ fr (H : Heap) (hH : H.Ok), vcallB (vcall kn vtab K d) vtab K fr 117 [.slice none 1 0 0 true, .int .i64 (s.length : Int)] H = some (.acc H.next 0 1 0 true, H.push (.cells [] false true)) := fun fr H hH => by rw [h3 fr H hH, if_pos h0]
    obtain rfl := List.length_eq_zero_iff.1 h0
    simp only [catA, catC, List.length_nil, List.map_nil, reps, List.append_nil, Nat.sub_zero, if_true, show ((0 : Nat) : Int) = 0 from rfl, accB, blkB, fr1, catB] at h2 h1 h3'
    simp (maxDischargeDepth := 20) [VF81, vst_some, vgd_true, vgd_false, vgo_nil, vgo_cons, vgo_guard, bwanted_some, vop_p, vop_l, vop_k, vop_n, vnorm_some, vseqc_normal, vseqc_exit, vseqc_ret, vcondc_true, vcondc_false, vexec_dreg, vdgo_nil, vdgo_p, vdgo_l, vdgo_k, vdgo_n, vdgo_gp, vdgo_gl, vdgo_gk, vdgo_gn, vdp_some, vdl_some, vdk_some, vdn_some, vdw_true, vdw_false, room_zero, room_put, get_room, next_room, get_hide, hide_zero, vexec_skip, vexec_exit, vexec_ret, vexec_reg, vexec_seq, vexec_cond, vexec_block, vexec_loop, blockO_exit, blockO_normal, blockO_ret, vfin_some, vend_normal, vend_ret, vbody_eq, outO_normal, outO_exit, outO_ret, vround_eq, vkeep_false, bkeep_cons, bkeep_nil, bput_some, bput_none, look_cons, look_nil, AOp.sub, POp.sub, LOp.sub, KOp.sub, NOp.sub, AX.sub, AX.subO, AX.ev, vP, vL, vK, vN, vElems, vElemSize, aP, aL, aK, aN, cB_add, cB_sub, cB_mul, cB_eql, cB_neq, cB_lss, cB_leq, cB_gtr, cB_geq, cB_xor, cB_and, cB_or, cS_eql, cS_neq, cS_lss, cS_leq, cS_gtr, cS_geq, aLoad, aBytesStr, aElems, aElemSize, Mk.val, next_push, next_put, get_push, get_put, Heap.read, List.replicate, List.replicate_succ, start, vRes, vResL, vResults, List.headD, vfrz_some, vexit_eq, vexit1_frozen, vexit1_gc, vexit2_some, solV, solL, solz_succ, solz_zero, solF_some, sol1, List.tail_cons, List.tail_nil, frzL_nil, frzL_cons', frzM_some, frz_int, frz_bool, frz_str, frz_nilFunc, frz_undef, frz_list, frz_elem, frz_nilptr, frz_nilmap, frz_fn, frz_ptr, frz_nilslice, frz_func, frz_agg, frz_tuple, frz_slice, frz_acc, frzS_eq, frzTidy_nil, ice_nil, next_ice, get_ice, iceB_some, vAppend, fitsB, aFill, aPart, aUn, AV.cells?, AV.isCell, reps, byteC_def, accB, blkB, fr1, List.drop_succ_cons, List.drop_zero, List.drop_nil, vkeep_true, gc, gcIds, reach, grow, idsOfL, idsOf, ddup, gcPush, gcTidy, zipKeep, renL, ren, renId, ixOf, cellsOf, cut_zero, cut_p1, cut_p2, cut_p3, cut_p4, cut_app, cut_app0, cut_app1, cut_push, cut_put_lt, cut_put_ge, cut_ice, new_lt, new_lt2, new_lt3, new_lt4, new_le2, new_le3, new_le4, eqn_a, eqn_b, eqn_c, eqn_d, eqn_e, eqn_f, next_cut, get_cut, put_put, idsOfL_append, renL_append, idsOfL_bytes, idsOfL_strs, idsOfL_ints, renL_bytes, renL_strs, renL_ints, frzL_bytes, frzL_strs, frzL_ints, frzL_drop, frzL_take, idsOfL_drop, idsOfL_take, renL_drop, renL_take, toBytes_map, toBytes_drop, toBytes_take, toBytes_td, idsOf_byteC, ren_byteC, frz_byteC, next_empty, frzTidy, okStore, aStore, ptrOk, Heap.write, aEqKs, aEqK, aEqP, c1, h1, h2, h3', d1, d2, d3, ok_push, hH, cut_self _ hH, ice_new hH]
  · have h3' : ∀ fr (H : Heap) (hH : H.Ok), vcallB (vcall kn vtab K d) vtab K fr 117 [.slice none 1 0 0 true, .int .i64 (s.length : Int)] H = some (.slice (some (H.next, 0)) 1 0 s.length false, H.push (.cells (reps s.length [.int .u8 0]) false true)) := fun fr H hH => by rw [h3 fr H hH, if_neg h0]
    have e0 : (0 = s.length) = False := eq_false (fun e => h0 e.symm)
    have e1 : (s.length = 0) = False := eq_false h0
    simp only [catA, catC, List.length_nil, List.map_nil, List.nil_append, Nat.sub_zero, e0, if_false, accB, blkB, fr1, catB] at h2 h1 h3'
    simp (maxDischargeDepth := 20) [VF81, vst_some, vgd_true, vgd_false, vgo_nil, vgo_cons, vgo_guard, bwanted_some, vop_p, vop_l, vop_k, vop_n, vnorm_some, vseqc_normal, vseqc_exit, vseqc_ret, vcondc_true, vcondc_false, vexec_dreg, vdgo_nil, vdgo_p, vdgo_l, vdgo_k, vdgo_n, vdgo_gp, vdgo_gl, vdgo_gk, vdgo_gn, vdp_some, vdl_some, vdk_some, vdn_some, vdw_true, vdw_false, room_zero, room_put, get_room, next_room, get_hide, hide_zero, vexec_skip, vexec_exit, vexec_ret, vexec_reg, vexec_seq, vexec_cond, vexec_block, vexec_loop, blockO_exit, blockO_normal, blockO_ret, vfin_some, vend_normal, vend_ret, vbody_eq, outO_normal, outO_exit, outO_ret, vround_eq, vkeep_false, bkeep_cons, bkeep_nil, bput_some, bput_none, look_cons, look_nil, AOp.sub, POp.sub, LOp.sub, KOp.sub, NOp.sub, AX.sub, AX.subO, AX.ev, vP, vL, vK, vN, vElems, vElemSize, aP, aL, aK, aN, cB_add, cB_sub, cB_mul, cB_eql, cB_neq, cB_lss, cB_leq, cB_gtr, cB_geq, cB_xor, cB_and, cB_or, cS_eql, cS_neq, cS_lss, cS_leq, cS_gtr, cS_geq, aLoad, aBytesStr, aElems, aElemSize, Mk.val, next_push, next_put, get_push, get_put, Heap.read, List.replicate, List.replicate_succ, start, vRes, vResL, vResults, List.headD, vfrz_some, vexit_eq, vexit1_frozen, vexit1_gc, vexit2_some, solV, solL, solz_succ, solz_zero, solF_some, sol1, List.tail_cons, List.tail_nil, frzL_nil, frzL_cons', frzM_some, frz_int, frz_bool, frz_str, frz_nilFunc, frz_undef, frz_list, frz_elem, frz_nilptr, frz_nilmap, frz_fn, frz_ptr, frz_nilslice, frz_func, frz_agg, frz_tuple, frz_slice, frz_acc, frzS_eq, frzTidy_nil, ice_nil, next_ice, get_ice, iceB_some, vAppend, fitsB, aFill, aPart, aUn, AV.cells?, AV.isCell, reps, byteC_def, accB, blkB, fr1, List.drop_succ_cons, List.drop_zero, List.drop_nil, vkeep_true, gc, gcIds, reach, grow, idsOfL, idsOf, ddup, gcPush, gcTidy, zipKeep, renL, ren, renId, ixOf, cellsOf, cut_zero, cut_p1, cut_p2, cut_p3, cut_p4, cut_app, cut_app0, cut_app1, cut_push, cut_put_lt, cut_put_ge, cut_ice, new_lt, new_lt2, new_lt3, new_lt4, new_le2, new_le3, new_le4, eqn_a, eqn_b, eqn_c, eqn_d, eqn_e, eqn_f, next_cut, get_cut, put_put, idsOfL_append, renL_append, idsOfL_bytes, idsOfL_strs, idsOfL_ints, renL_bytes, renL_strs, renL_ints, frzL_bytes, frzL_strs, frzL_ints, frzL_drop, frzL_take, idsOfL_drop, idsOfL_take, renL_drop, renL_take, toBytes_map, toBytes_drop, toBytes_take, toBytes_td, idsOf_byteC, ren_byteC, frz_byteC, next_empty, frzTidy, okStore, aStore, ptrOk, Heap.write, aEqKs, aEqK, aEqP, c1, h1, h2, h3', e0, e1, hr, hrn, hrl, d1, d2, d3, ok_push, hH, cut_self _ hH, ice_new hH]

end Go.Proofs.Ytachollgbplikaa
