/- frame.one: what it comes to. -/
import Derived.Test.YtachollgbplikaaQTake
import Derived.Test.YtachollgbplikaaQLayDef
set_option linter.all false
set_option linter.unusedSimpArgs false
namespace Go.Proofs.Ytachollgbplikaa

theorem takeR_le (s : List UInt8) : (takeR s).2.1.length ≤ s.length ∧ 0 ≤ (takeR s).1 ∧ (takeR s).1 ≤ 4611686018427387903 := by
  have := takeOf_le s
  simp only [takeR]
  split
  · simp only [List.length_drop]; omega
  · simp

def oneHead (b : List UInt8) : Nat := (b.take 9).length - (takeR (b.take 9)).2.1.length + 8
def oneN (b : List UInt8) : Nat := (takeR (b.take 9)).1.toNat
def oneRec (b : List UInt8) : List UInt8 := (b.drop (oneHead b)).take (oneN b)
def oneOf (b : List UInt8) : Option (List UInt8 × Nat) :=
  if (takeR (b.take 9)).2.2 = 0 ∧ oneN b ≤ 4000 ∧ oneHead b + oneN b ≤ b.length then
    if sum8 (oneRec b) = (b.drop (oneHead b - 8)).take 8 then some (oneRec b, oneHead b + oneN b) else none
  else none
def oneAV (o : Option (List UInt8 × Nat)) : AV := match o with
  | some p => .tuple [lst p.1, .int .i64 p.2, .bool true]
  | none => .tuple [.list 1 0 [] false, .int .i64 0, .bool false]

set_option maxHeartbeats 2000000 in
theorem one_spec {kn K d : Nat} (hk : isKn kn = true) (hK : 1099511627776 < K) (fr : Fr) (H : Heap) (hH : H.Ok) (b : List UInt8) (ex : Bool) (hb : b.length ≤ 1099511627776) :
    vcallB (vcall kn vtab K (d + 4)) vtab K fr 85 [.list 1 b.length (b.map byteC) ex] H = some (oneAV (oneOf b), H) := by
  rw [body_bare rfl rfl]
  have c1 := fun fr H args => call_of (K := K) (d := d + 3) (fr := fr) (args := args) (H := H) hk (f := 119) rfl rfl
  have c2 := fun fr H args => call_of (K := K) (d := d + 3) (fr := fr) (args := args) (H := H) hk (f := 83) rfl rfl
  have c3 := fun fr H args => call_of (K := K) (d := d + 3) (fr := fr) (args := args) (H := H) hk (f := 120) rfl rfl
  have h1 := fun fr H hH ex => Take_spec (K := K) (d := d) hk hK fr H hH (b.take 9) ex (by simp only [List.length_take]; omega)
  have hle := takeR_le (b.take 9)
  have hl9 : (b.take 9).length = min 9 b.length := List.length_take
  obtain ⟨m, hm, hm1, hm2⟩ : ∃ m : Nat, min 9 b.length = m ∧ m ≤ 9 ∧ m ≤ b.length := ⟨min 9 b.length, rfl, by omega, by omega⟩
  have hdef : oneOf b = if (takeR (b.take 9)).2.2 = 0 ∧ oneN b ≤ 4000 ∧ oneHead b + oneN b ≤ b.length then (if sum8 (oneRec b) = (b.drop (oneHead b - 8)).take 8 then some (oneRec b, oneHead b + oneN b) else none) else none := rfl
  have hn : ((takeR (b.take 9)).1 : Int) = oneN b := by unfold oneN; omega
  have hh : (oneHead b : Int) = (m : Int) - ((takeR (b.take 9)).2.1.length : Int) + 8 := by unfold oneHead; rw [hl9, hm]; omega
  have hrl : (takeR (b.take 9)).2.1.length ≤ m := by rw [← hm, ← hl9]; exact hle.1
  have hrec : oneRec b = (b.drop (oneHead b)).take (oneN b) := rfl
  rw [hl9, hm, List.map_take] at h1
  rw [hdef]
  generalize takeR (b.take 9) = t at *
  obtain ⟨t1, t2, t3⟩ := t
  simp only at h1 hh hn hrl ⊢
  generalize oneHead b = h at *
  generalize oneN b = n at *
  subst hn
  have ht9 : List.take 9 (b.map byteC) = List.take m (b.map byteC) := by
    rw [← hm]
    by_cases h : 9 ≤ b.length
    · rw [Nat.min_eq_left h]
    · rw [List.take_of_length_le (by simp; omega), List.take_of_length_le (by simp; omega)]
  rw [ht9] at h1
  have hmin : (if (9 : Int) < (b.length : Int) then (9 : Int) else (b.length : Int)) = (m : Int) := by split <;> omega
  have wA : IntKind.i64.wrap ((m : Int) - (t2.length : Int)) = (m : Int) - t2.length := by rw [wrap_i64] <;> omega
  have wB : IntKind.i64.wrap ((m : Int) - (t2.length : Int) + 8) = (h : Int) := by rw [wrap_i64] <;> omega
  by_cases e0 : t3 = 0
  case neg =>
    have cn : ¬ (t3 = 0 ∧ n ≤ 4000 ∧ h + n ≤ b.length) := fun c => e0 c.1
    rw [if_neg cn]
    simp (maxDischargeDepth := 20) [VF85, vst_some, vgd_true, vgd_false, vgo_nil, vgo_cons, vgo_guard, bwanted_some, vop_p, vop_l, vop_k, vop_n, vnorm_some, vseqc_normal, vseqc_exit, vseqc_ret, vcondc_true, vcondc_false, vexec_dreg, vdgo_nil, vdgo_p, vdgo_l, vdgo_k, vdgo_n, vdgo_gp, vdgo_gl, vdgo_gk, vdgo_gn, vdp_some, vdl_some, vdk_some, vdn_some, vdw_true, vdw_false, room_zero, room_put, get_room, next_room, get_hide, hide_zero, vexec_skip, vexec_exit, vexec_ret, vexec_reg, vexec_seq, vexec_cond, vexec_block, vexec_loop, blockO_exit, blockO_normal, blockO_ret, vfin_some, vend_normal, vend_ret, vbody_eq, outO_normal, outO_exit, outO_ret, vround_eq, vkeep_false, bkeep_cons, bkeep_nil, bput_some, bput_none, look_cons, look_nil, AOp.sub, POp.sub, LOp.sub, KOp.sub, NOp.sub, AX.sub, AX.subO, AX.ev, vP, vL, vK, vN, vElems, vElemSize, aP, aL, aK, aN, cB_add, cB_sub, cB_mul, cB_eql, cB_neq, cB_lss, cB_leq, cB_gtr, cB_geq, cB_xor, cB_and, cB_or, cS_eql, cS_neq, cS_lss, cS_leq, cS_gtr, cS_geq, aLoad, aBytesStr, aElems, aElemSize, Mk.val, next_push, next_put, get_push, get_put, Heap.read, List.replicate, List.replicate_succ, start, vRes, vResL, vResults, List.headD, vfrz_some, vexit_eq, vexit1_frozen, vexit1_gc, vexit2_some, solV, solL, solz_succ, solz_zero, solF_some, sol1, List.tail_cons, List.tail_nil, frzL_nil, frzL_cons', frzM_some, frz_int, frz_bool, frz_str, frz_nilFunc, frz_undef, frz_list, frz_elem, frz_nilptr, frz_nilmap, frz_fn, frz_ptr, frz_nilslice, frz_func, frz_agg, frz_tuple, frz_slice, frz_acc, frzS_eq, frzTidy_nil, ice_nil, next_ice, get_ice, iceB_some, vAppend, fitsB, aFill, aPart, aUn, AV.cells?, AV.isCell, reps, byteC_def, accB, blkB, fr1, List.drop_succ_cons, List.drop_zero, List.drop_nil, vkeep_true, gc, gcIds, reach, grow, idsOfL, idsOf, ddup, gcPush, gcTidy, zipKeep, renL, ren, renId, ixOf, cellsOf, cut_zero, cut_p1, cut_p2, cut_p3, cut_p4, cut_app, cut_app0, cut_app1, cut_push, cut_put_lt, cut_put_ge, cut_ice, new_lt, new_lt2, new_lt3, new_lt4, new_le2, new_le3, new_le4, eqn_a, eqn_b, eqn_c, eqn_d, eqn_e, eqn_f, next_cut, get_cut, put_put, idsOfL_append, renL_append, idsOfL_bytes, idsOfL_strs, idsOfL_ints, renL_bytes, renL_strs, renL_ints, frzL_bytes, frzL_strs, frzL_ints, frzL_drop, frzL_take, idsOfL_drop, idsOfL_take, renL_drop, renL_take, toBytes_map, toBytes_drop, toBytes_take, toBytes_td, idsOf_byteC, ren_byteC, frz_byteC, next_empty, loadOk, ofList, isList, bornL, bornX, bornXO, bornOf, bornPut_some, bornPut_none, bornP, known, knownL, AV.same, AV.sameL, List.all_cons, List.all_nil, List.drop_zero, List.isEmpty_cons, List.isEmpty_nil, thawed, vSlice, vSliceA, aSlice, aBoundO, aBound, aShift, aSliceStr, aFold, aMinMax, c1, c2, c3, h1, hmin, hm2, wA, wB, e0, oneAV, ok_push, hH, cut_self _ hH, ice_new hH]
  subst e0
  by_cases e1 : 4000 < n
  · have cn : ¬ ((0 : Int) = 0 ∧ n ≤ 4000 ∧ h + n ≤ b.length) := fun c => by omega
    rw [if_neg cn]
    have e1' : (4000 : Int) < n := by omega
    simp (maxDischargeDepth := 20) [VF85, vst_some, vgd_true, vgd_false, vgo_nil, vgo_cons, vgo_guard, bwanted_some, vop_p, vop_l, vop_k, vop_n, vnorm_some, vseqc_normal, vseqc_exit, vseqc_ret, vcondc_true, vcondc_false, vexec_dreg, vdgo_nil, vdgo_p, vdgo_l, vdgo_k, vdgo_n, vdgo_gp, vdgo_gl, vdgo_gk, vdgo_gn, vdp_some, vdl_some, vdk_some, vdn_some, vdw_true, vdw_false, room_zero, room_put, get_room, next_room, get_hide, hide_zero, vexec_skip, vexec_exit, vexec_ret, vexec_reg, vexec_seq, vexec_cond, vexec_block, vexec_loop, blockO_exit, blockO_normal, blockO_ret, vfin_some, vend_normal, vend_ret, vbody_eq, outO_normal, outO_exit, outO_ret, vround_eq, vkeep_false, bkeep_cons, bkeep_nil, bput_some, bput_none, look_cons, look_nil, AOp.sub, POp.sub, LOp.sub, KOp.sub, NOp.sub, AX.sub, AX.subO, AX.ev, vP, vL, vK, vN, vElems, vElemSize, aP, aL, aK, aN, cB_add, cB_sub, cB_mul, cB_eql, cB_neq, cB_lss, cB_leq, cB_gtr, cB_geq, cB_xor, cB_and, cB_or, cS_eql, cS_neq, cS_lss, cS_leq, cS_gtr, cS_geq, aLoad, aBytesStr, aElems, aElemSize, Mk.val, next_push, next_put, get_push, get_put, Heap.read, List.replicate, List.replicate_succ, start, vRes, vResL, vResults, List.headD, vfrz_some, vexit_eq, vexit1_frozen, vexit1_gc, vexit2_some, solV, solL, solz_succ, solz_zero, solF_some, sol1, List.tail_cons, List.tail_nil, frzL_nil, frzL_cons', frzM_some, frz_int, frz_bool, frz_str, frz_nilFunc, frz_undef, frz_list, frz_elem, frz_nilptr, frz_nilmap, frz_fn, frz_ptr, frz_nilslice, frz_func, frz_agg, frz_tuple, frz_slice, frz_acc, frzS_eq, frzTidy_nil, ice_nil, next_ice, get_ice, iceB_some, vAppend, fitsB, aFill, aPart, aUn, AV.cells?, AV.isCell, reps, byteC_def, accB, blkB, fr1, List.drop_succ_cons, List.drop_zero, List.drop_nil, vkeep_true, gc, gcIds, reach, grow, idsOfL, idsOf, ddup, gcPush, gcTidy, zipKeep, renL, ren, renId, ixOf, cellsOf, cut_zero, cut_p1, cut_p2, cut_p3, cut_p4, cut_app, cut_app0, cut_app1, cut_push, cut_put_lt, cut_put_ge, cut_ice, new_lt, new_lt2, new_lt3, new_lt4, new_le2, new_le3, new_le4, eqn_a, eqn_b, eqn_c, eqn_d, eqn_e, eqn_f, next_cut, get_cut, put_put, idsOfL_append, renL_append, idsOfL_bytes, idsOfL_strs, idsOfL_ints, renL_bytes, renL_strs, renL_ints, frzL_bytes, frzL_strs, frzL_ints, frzL_drop, frzL_take, idsOfL_drop, idsOfL_take, renL_drop, renL_take, toBytes_map, toBytes_drop, toBytes_take, toBytes_td, idsOf_byteC, ren_byteC, frz_byteC, next_empty, loadOk, ofList, isList, bornL, bornX, bornXO, bornOf, bornPut_some, bornPut_none, bornP, known, knownL, AV.same, AV.sameL, List.all_cons, List.all_nil, List.drop_zero, List.isEmpty_cons, List.isEmpty_nil, thawed, vSlice, vSliceA, aSlice, aBoundO, aBound, aShift, aSliceStr, aFold, aMinMax, c1, c2, c3, h1, hmin, hm2, wA, wB, e1', e1, oneAV, ok_push, hH, cut_self _ hH, ice_new hH]
  have e1' : ¬ (4000 : Int) < n := by omega
  have wC : IntKind.i64.wrap ((h : Int) + (n : Int)) = (h : Int) + n := by rw [wrap_i64] <;> omega
  by_cases e2 : b.length < h + n
  · have cn : ¬ ((0 : Int) = 0 ∧ n ≤ 4000 ∧ h + n ≤ b.length) := fun c => by omega
    rw [if_neg cn]
    have e2' : (b.length : Int) < (h : Int) + n := by omega
    simp (maxDischargeDepth := 20) [VF85, vst_some, vgd_true, vgd_false, vgo_nil, vgo_cons, vgo_guard, bwanted_some, vop_p, vop_l, vop_k, vop_n, vnorm_some, vseqc_normal, vseqc_exit, vseqc_ret, vcondc_true, vcondc_false, vexec_dreg, vdgo_nil, vdgo_p, vdgo_l, vdgo_k, vdgo_n, vdgo_gp, vdgo_gl, vdgo_gk, vdgo_gn, vdp_some, vdl_some, vdk_some, vdn_some, vdw_true, vdw_false, room_zero, room_put, get_room, next_room, get_hide, hide_zero, vexec_skip, vexec_exit, vexec_ret, vexec_reg, vexec_seq, vexec_cond, vexec_block, vexec_loop, blockO_exit, blockO_normal, blockO_ret, vfin_some, vend_normal, vend_ret, vbody_eq, outO_normal, outO_exit, outO_ret, vround_eq, vkeep_false, bkeep_cons, bkeep_nil, bput_some, bput_none, look_cons, look_nil, AOp.sub, POp.sub, LOp.sub, KOp.sub, NOp.sub, AX.sub, AX.subO, AX.ev, vP, vL, vK, vN, vElems, vElemSize, aP, aL, aK, aN, cB_add, cB_sub, cB_mul, cB_eql, cB_neq, cB_lss, cB_leq, cB_gtr, cB_geq, cB_xor, cB_and, cB_or, cS_eql, cS_neq, cS_lss, cS_leq, cS_gtr, cS_geq, aLoad, aBytesStr, aElems, aElemSize, Mk.val, next_push, next_put, get_push, get_put, Heap.read, List.replicate, List.replicate_succ, start, vRes, vResL, vResults, List.headD, vfrz_some, vexit_eq, vexit1_frozen, vexit1_gc, vexit2_some, solV, solL, solz_succ, solz_zero, solF_some, sol1, List.tail_cons, List.tail_nil, frzL_nil, frzL_cons', frzM_some, frz_int, frz_bool, frz_str, frz_nilFunc, frz_undef, frz_list, frz_elem, frz_nilptr, frz_nilmap, frz_fn, frz_ptr, frz_nilslice, frz_func, frz_agg, frz_tuple, frz_slice, frz_acc, frzS_eq, frzTidy_nil, ice_nil, next_ice, get_ice, iceB_some, vAppend, fitsB, aFill, aPart, aUn, AV.cells?, AV.isCell, reps, byteC_def, accB, blkB, fr1, List.drop_succ_cons, List.drop_zero, List.drop_nil, vkeep_true, gc, gcIds, reach, grow, idsOfL, idsOf, ddup, gcPush, gcTidy, zipKeep, renL, ren, renId, ixOf, cellsOf, cut_zero, cut_p1, cut_p2, cut_p3, cut_p4, cut_app, cut_app0, cut_app1, cut_push, cut_put_lt, cut_put_ge, cut_ice, new_lt, new_lt2, new_lt3, new_lt4, new_le2, new_le3, new_le4, eqn_a, eqn_b, eqn_c, eqn_d, eqn_e, eqn_f, next_cut, get_cut, put_put, idsOfL_append, renL_append, idsOfL_bytes, idsOfL_strs, idsOfL_ints, renL_bytes, renL_strs, renL_ints, frzL_bytes, frzL_strs, frzL_ints, frzL_drop, frzL_take, idsOfL_drop, idsOfL_take, renL_drop, renL_take, toBytes_map, toBytes_drop, toBytes_take, toBytes_td, idsOf_byteC, ren_byteC, frz_byteC, next_empty, loadOk, ofList, isList, bornL, bornX, bornXO, bornOf, bornPut_some, bornPut_none, bornP, known, knownL, AV.same, AV.sameL, List.all_cons, List.all_nil, List.drop_zero, List.isEmpty_cons, List.isEmpty_nil, thawed, vSlice, vSliceA, aSlice, aBoundO, aBound, aShift, aSliceStr, aFold, aMinMax, c1, c2, c3, h1, hmin, hm2, wA, wB, e1', e1, wC, e2, e2', oneAV, ok_push, hH, cut_self _ hH, ice_new hH]
  have cn : (0 : Int) = 0 ∧ n ≤ 4000 ∧ h + n ≤ b.length := ⟨rfl, by omega, by omega⟩
  rw [if_pos cn]
  obtain ⟨g, rfl⟩ : ∃ g, h = g + 8 := ⟨h - 8, by omega⟩
  have wB : IntKind.i64.wrap ((m : Int) - (t2.length : Int) + 8) = (g : Int) + 8 := by rw [wrap_i64] <;> omega
  have wC : IntKind.i64.wrap ((g : Int) + 8 + (n : Int)) = (g : Int) + 8 + n := by rw [wrap_i64] <;> omega
  have wG : IntKind.i64.wrap (g : Int) = g := by rw [wrap_i64] <;> omega
  have e2' : ((b.length : Int) < (g : Int) + 8 + n) = False := eq_false (by omega)
  have b1 : (0 ≤ (g : Int) + 8 + n) = True := eq_true (by omega)
  have b2 : ((g : Int) + 8 + n ≤ (b.length : Int)) = True := eq_true (by omega)
  have b3 : ((g : Int) + 8 + n).toNat = g + 8 + n := by omega
  have b4 : (0 ≤ (g : Int) + 8) = True := eq_true (by omega)
  have b5 : ((g : Int) + 8).toNat = g + 8 := by omega
  have b6 : ((g : Int) + 8 ≤ (b.length : Int)) = True := eq_true (by omega)
  have b7 : ((g : Int) + 8 ≤ (g : Int) + 8 + n) = True := eq_true (by omega)
  have b8 : ((g : Int) ≤ (g : Int) + 8) = True := eq_true (by omega)
  have b9 : (n ≤ min n (b.length - (g + 8))) = True := eq_true (by omega)
  have b10 : ∀ X : List AV, List.take n (List.take n X) = List.take n X := fun X => by rw [List.take_take, Nat.min_self]
  have hg8 : g + 8 - 8 = g := by omega
  have hrl' : (oneRec b).length = n := by rw [hrec, List.length_take, List.length_drop]; omega
  have hrm : (oneRec b).map byteC = List.take n (List.drop (g + 8) (b.map byteC)) := by rw [hrec, List.map_take, List.map_drop]
  rw [hg8]
  have hsl : ((b.drop g).take 8).length = 8 := by rw [List.length_take, List.length_drop]; omega
  have hsm : ((b.drop g).take 8).map byteC = List.take 8 (List.drop g (b.map byteC)) := by rw [List.map_take, List.map_drop]
  have h2 := fun fr H hH ex => sum8_spec (K := K) (d := d + 2) hk hK fr H hH (oneRec b) ex (by omega)
  have h8 := sum8_len (oneRec b)
  have h3 := fun fr H hH ex => equal_spec (C := vcall kn vtab K (d + 3)) hK fr H hH (sum8 (oneRec b)) ((b.drop g).take 8) false ex (by omega)
  rw [hrl', hrm] at h2
  rw [h8, hsl, hsm] at h3
  have c4 := fun fr H ex => clone_at (K := K) (d := d + 3) hk fr H (oneRec b) ex (by omega)
  rw [hrl', hrm] at c4
  have c5 := fun fr H b n => clip_at (K := K) (d := d + 3) hk fr H b n
  have z1 : g + 8 + n - (g + 8) = n := by omega
  have z2 : g + 8 - g = 8 := by omega
  have z3 : (g ≤ g + 8) = True := eq_true (by omega)
  have z4 : (g + 8 ≤ g + 8 + n) = True := eq_true (by omega)
  have z5 : (g + 8 ≤ b.length) = True := eq_true (by omega)
  by_cases e4 : sum8 (oneRec b) = (b.drop g).take 8
  · rw [if_pos e4]
    simp only [oneAV, lst]
    rw [hrl', hrm]
    simp only [e4, decide_true, hsm] at h3 h2
    simp (maxDischargeDepth := 20) [VF85, vst_some, vgd_true, vgd_false, vgo_nil, vgo_cons, vgo_guard, bwanted_some, vop_p, vop_l, vop_k, vop_n, vnorm_some, vseqc_normal, vseqc_exit, vseqc_ret, vcondc_true, vcondc_false, vexec_dreg, vdgo_nil, vdgo_p, vdgo_l, vdgo_k, vdgo_n, vdgo_gp, vdgo_gl, vdgo_gk, vdgo_gn, vdp_some, vdl_some, vdk_some, vdn_some, vdw_true, vdw_false, room_zero, room_put, get_room, next_room, get_hide, hide_zero, vexec_skip, vexec_exit, vexec_ret, vexec_reg, vexec_seq, vexec_cond, vexec_block, vexec_loop, blockO_exit, blockO_normal, blockO_ret, vfin_some, vend_normal, vend_ret, vbody_eq, outO_normal, outO_exit, outO_ret, vround_eq, vkeep_false, bkeep_cons, bkeep_nil, bput_some, bput_none, look_cons, look_nil, AOp.sub, POp.sub, LOp.sub, KOp.sub, NOp.sub, AX.sub, AX.subO, AX.ev, vP, vL, vK, vN, vElems, vElemSize, aP, aL, aK, aN, cB_add, cB_sub, cB_mul, cB_eql, cB_neq, cB_lss, cB_leq, cB_gtr, cB_geq, cB_xor, cB_and, cB_or, cS_eql, cS_neq, cS_lss, cS_leq, cS_gtr, cS_geq, aLoad, aBytesStr, aElems, aElemSize, Mk.val, next_push, next_put, get_push, get_put, Heap.read, List.replicate, List.replicate_succ, start, vRes, vResL, vResults, List.headD, vfrz_some, vexit_eq, vexit1_frozen, vexit1_gc, vexit2_some, solV, solL, solz_succ, solz_zero, solF_some, sol1, List.tail_cons, List.tail_nil, frzL_nil, frzL_cons', frzM_some, frz_int, frz_bool, frz_str, frz_nilFunc, frz_undef, frz_list, frz_elem, frz_nilptr, frz_nilmap, frz_fn, frz_ptr, frz_nilslice, frz_func, frz_agg, frz_tuple, frz_slice, frz_acc, frzS_eq, frzTidy_nil, ice_nil, next_ice, get_ice, iceB_some, vAppend, fitsB, aFill, aPart, aUn, AV.cells?, AV.isCell, reps, byteC_def, accB, blkB, fr1, List.drop_succ_cons, List.drop_zero, List.drop_nil, vkeep_true, gc, gcIds, reach, grow, idsOfL, idsOf, ddup, gcPush, gcTidy, zipKeep, renL, ren, renId, ixOf, cellsOf, cut_zero, cut_p1, cut_p2, cut_p3, cut_p4, cut_app, cut_app0, cut_app1, cut_push, cut_put_lt, cut_put_ge, cut_ice, new_lt, new_lt2, new_lt3, new_lt4, new_le2, new_le3, new_le4, eqn_a, eqn_b, eqn_c, eqn_d, eqn_e, eqn_f, next_cut, get_cut, put_put, idsOfL_append, renL_append, idsOfL_bytes, idsOfL_strs, idsOfL_ints, renL_bytes, renL_strs, renL_ints, frzL_bytes, frzL_strs, frzL_ints, frzL_drop, frzL_take, idsOfL_drop, idsOfL_take, renL_drop, renL_take, toBytes_map, toBytes_drop, toBytes_take, toBytes_td, idsOf_byteC, ren_byteC, frz_byteC, next_empty, loadOk, ofList, isList, bornL, bornX, bornXO, bornOf, bornPut_some, bornPut_none, bornP, known, knownL, AV.same, AV.sameL, List.all_cons, List.all_nil, List.drop_zero, List.isEmpty_cons, List.isEmpty_nil, thawed, vSlice, vSliceA, aSlice, aBoundO, aBound, aShift, aSliceStr, aFold, aMinMax, c1, c2, c3, h1, hmin, hm2, wA, wB, e1', e1, wC, wG, e2', b1, b2, b3, b4, b5, b6, b7, b8, b9, b10, z1, z2, z3, z4, z5, h2, h3, c4, c5, oneAV, ok_push, hH, cut_self _ hH, ice_new hH]
  · rw [if_neg e4]
    simp only [e4, decide_false] at h3
    simp (maxDischargeDepth := 20) [VF85, vst_some, vgd_true, vgd_false, vgo_nil, vgo_cons, vgo_guard, bwanted_some, vop_p, vop_l, vop_k, vop_n, vnorm_some, vseqc_normal, vseqc_exit, vseqc_ret, vcondc_true, vcondc_false, vexec_dreg, vdgo_nil, vdgo_p, vdgo_l, vdgo_k, vdgo_n, vdgo_gp, vdgo_gl, vdgo_gk, vdgo_gn, vdp_some, vdl_some, vdk_some, vdn_some, vdw_true, vdw_false, room_zero, room_put, get_room, next_room, get_hide, hide_zero, vexec_skip, vexec_exit, vexec_ret, vexec_reg, vexec_seq, vexec_cond, vexec_block, vexec_loop, blockO_exit, blockO_normal, blockO_ret, vfin_some, vend_normal, vend_ret, vbody_eq, outO_normal, outO_exit, outO_ret, vround_eq, vkeep_false, bkeep_cons, bkeep_nil, bput_some, bput_none, look_cons, look_nil, AOp.sub, POp.sub, LOp.sub, KOp.sub, NOp.sub, AX.sub, AX.subO, AX.ev, vP, vL, vK, vN, vElems, vElemSize, aP, aL, aK, aN, cB_add, cB_sub, cB_mul, cB_eql, cB_neq, cB_lss, cB_leq, cB_gtr, cB_geq, cB_xor, cB_and, cB_or, cS_eql, cS_neq, cS_lss, cS_leq, cS_gtr, cS_geq, aLoad, aBytesStr, aElems, aElemSize, Mk.val, next_push, next_put, get_push, get_put, Heap.read, List.replicate, List.replicate_succ, start, vRes, vResL, vResults, List.headD, vfrz_some, vexit_eq, vexit1_frozen, vexit1_gc, vexit2_some, solV, solL, solz_succ, solz_zero, solF_some, sol1, List.tail_cons, List.tail_nil, frzL_nil, frzL_cons', frzM_some, frz_int, frz_bool, frz_str, frz_nilFunc, frz_undef, frz_list, frz_elem, frz_nilptr, frz_nilmap, frz_fn, frz_ptr, frz_nilslice, frz_func, frz_agg, frz_tuple, frz_slice, frz_acc, frzS_eq, frzTidy_nil, ice_nil, next_ice, get_ice, iceB_some, vAppend, fitsB, aFill, aPart, aUn, AV.cells?, AV.isCell, reps, byteC_def, accB, blkB, fr1, List.drop_succ_cons, List.drop_zero, List.drop_nil, vkeep_true, gc, gcIds, reach, grow, idsOfL, idsOf, ddup, gcPush, gcTidy, zipKeep, renL, ren, renId, ixOf, cellsOf, cut_zero, cut_p1, cut_p2, cut_p3, cut_p4, cut_app, cut_app0, cut_app1, cut_push, cut_put_lt, cut_put_ge, cut_ice, new_lt, new_lt2, new_lt3, new_lt4, new_le2, new_le3, new_le4, eqn_a, eqn_b, eqn_c, eqn_d, eqn_e, eqn_f, next_cut, get_cut, put_put, idsOfL_append, renL_append, idsOfL_bytes, idsOfL_strs, idsOfL_ints, renL_bytes, renL_strs, renL_ints, frzL_bytes, frzL_strs, frzL_ints, frzL_drop, frzL_take, idsOfL_drop, idsOfL_take, renL_drop, renL_take, toBytes_map, toBytes_drop, toBytes_take, toBytes_td, idsOf_byteC, ren_byteC, frz_byteC, next_empty, loadOk, ofList, isList, bornL, bornX, bornXO, bornOf, bornPut_some, bornPut_none, bornP, known, knownL, AV.same, AV.sameL, List.all_cons, List.all_nil, List.drop_zero, List.isEmpty_cons, List.isEmpty_nil, thawed, vSlice, vSliceA, aSlice, aBoundO, aBound, aShift, aSliceStr, aFold, aMinMax, c1, c2, c3, h1, hmin, hm2, wA, wB, e1', e1, wC, wG, e2', b1, b2, b3, b4, b5, b6, b7, b8, b9, b10, z1, z2, z3, z4, z5, h2, h3, c4, c5, oneAV, ok_push, hH, cut_self _ hH, ice_new hH]

end Go.Proofs.Ytachollgbplikaa
