/- frame.Read: what it comes to. -/
import Derived.Test.YtachollgbplikaaQOne
set_option linter.all false
set_option linter.unusedSimpArgs false
namespace Go.Proofs.Ytachollgbplikaa

theorem oneOf_pos {b r : List UInt8} {n : Nat} (h : oneOf b = some (r, n)) : 8 ≤ n ∧ n ≤ b.length := by
  unfold oneOf at h
  split at h
  · rename_i c
    split at h
    · simp only [Option.some.injEq, Prod.mk.injEq] at h
      have : 8 ≤ oneHead b := by unfold oneHead; omega
      omega
    · cases h
  · cases h

def rdStep (b : List UInt8) (s : List (List UInt8) × Nat) (_ : Unit) : (List (List UInt8) × Nat) ⊕ (List (List UInt8) × Nat) :=
  match oneOf (b.drop s.2) with
  | some q => .inl (s.1 ++ [q.1], s.2 + q.2)
  | none => .inr s
def rdFin (H : Heap) : (List (List UInt8) × Nat) ⊕ (List (List UInt8) × Nat) → Ex × Fast × Heap
  | .inl s => (.ret, [(2, accL H s.1), (3, .int .i64 s.2)], blkL H s.1)
  | .inr s => (.ret, [(2, accL H s.1), (3, .int .i64 s.2)], blkL H s.1)
def readR (b : List UInt8) : List (List UInt8) × Nat := match runL (rdStep b) ([], 0) (List.replicate (b.length + 1) ()) with
  | .inl s => s
  | .inr s => s

theorem clipL_at {kn K d : Nat} (hk : isKn kn = true) (fr : Fr) (H : Heap) (b n : Nat) :
    vcall kn vtab K (d + 1) fr 86 [.acc b 0 1 n true] H = some (.acc b 0 1 n true, H) := by
  rw [sum_of hk rfl rfl (g := clipSem 1) rfl]
  simp [clipSem]

theorem rd_round {kn K d : Nat} (hk : isKn kn = true) (hK : 1099511627776 < K) (H : Heap) (hH : H.Ok) (b : List UInt8) (ex : Bool) (hb : b.length ≤ 1099511627776) (p : List (List UInt8)) (u : Nat) (hu : u ≤ b.length) (hp : p.length ≤ b.length) :
    VR24_0 (vcall kn vtab K (d + 4 + 1)) K (fr1 H) ([(0, .list 1 b.length (b.map byteC) ex), (2, accL H p), (3, .int .i64 u)], blkL H p) =
      some (match rdStep b (p, u) () with
        | .inl s => .inl ([(0, .list 1 b.length (b.map byteC) ex), (2, accL H s.1), (3, .int .i64 s.2)], blkL H s.1)
        | .inr s => .inr (rdFin H (.inr s))) := by
  have c1 := fun fr H args => call_of (K := K) (d := d + 4) (fr := fr) (args := args) (H := H) hk (f := 85) rfl rfl
  have c2 := fun fr H b n => clipL_at (K := K) (d := d + 4) hk fr H b n
  have h1 := fun fr H hH ex => one_spec (K := K) (d := d) hk hK fr H hH (b.drop u) ex (by rw [List.length_drop]; omega)
  rw [List.length_drop, List.map_drop] at h1
  have p1 := idsOfL_lst p
  have p2 := fun m q => renL_lst m q p
  have p3 := fun H n e => frzL_lst H n e p
  have hpl : (p.map lst).length = p.length := by simp
  have x1 : (0 ≤ (u : Int) ∧ (u : Int) ≤ (b.length : Int)) = True := eq_true (by omega)
  have x2 : u ≤ b.length := hu
  have hfull : List.take (b.length - u) (List.drop u (b.map byteC)) = List.drop u (b.map byteC) := List.take_of_length_le (by simp)
  simp only [rdStep]
  cases ho : oneOf (b.drop u) with
  | none =>
    rw [ho] at h1
    simp only [oneAV] at h1
    simp (maxDischargeDepth := 20) [VB24_0, vst_some, vgd_true, vgd_false, vgo_nil, vgo_cons, vgo_guard, bwanted_some, vop_p, vop_l, vop_k, vop_n, vnorm_some, vseqc_normal, vseqc_exit, vseqc_ret, vcondc_true, vcondc_false, vexec_dreg, vdgo_nil, vdgo_p, vdgo_l, vdgo_k, vdgo_n, vdgo_gp, vdgo_gl, vdgo_gk, vdgo_gn, vdp_some, vdl_some, vdk_some, vdn_some, vdw_true, vdw_false, room_zero, room_put, get_room, next_room, get_hide, hide_zero, vexec_skip, vexec_exit, vexec_ret, vexec_reg, vexec_seq, vexec_cond, vexec_block, vexec_loop, blockO_exit, blockO_normal, blockO_ret, vfin_some, vend_normal, vend_ret, vbody_eq, outO_normal, outO_exit, outO_ret, vround_eq, vkeep_false, bkeep_cons, bkeep_nil, bput_some, bput_none, look_cons, look_nil, AOp.sub, POp.sub, LOp.sub, KOp.sub, NOp.sub, AX.sub, AX.subO, AX.ev, vP, vL, vK, vN, vElems, vElemSize, aP, aL, aK, aN, cB_add, cB_sub, cB_mul, cB_eql, cB_neq, cB_lss, cB_leq, cB_gtr, cB_geq, cB_xor, cB_and, cB_or, cS_eql, cS_neq, cS_lss, cS_leq, cS_gtr, cS_geq, aLoad, aBytesStr, aElems, aElemSize, Mk.val, next_push, next_put, get_push, get_put, Heap.read, List.replicate, List.replicate_succ, start, vRes, vResL, vResults, List.headD, vfrz_some, vexit_eq, vexit1_frozen, vexit1_gc, vexit2_some, solV, solL, solz_succ, solz_zero, solF_some, sol1, List.tail_cons, List.tail_nil, frzL_nil, frzL_cons', frzM_some, frz_int, frz_bool, frz_str, frz_nilFunc, frz_undef, frz_list, frz_elem, frz_nilptr, frz_nilmap, frz_fn, frz_ptr, frz_nilslice, frz_func, frz_agg, frz_tuple, frz_slice, frz_acc, frzS_eq, frzTidy_nil, ice_nil, next_ice, get_ice, iceB_some, vAppend, fitsB, aFill, aPart, aUn, AV.cells?, AV.isCell, reps, byteC_def, accB, blkB, fr1, List.drop_succ_cons, List.drop_zero, List.drop_nil, vkeep_true, gc, gcIds, reach, grow, idsOfL, idsOf, ddup, gcPush, gcTidy, zipKeep, renL, ren, renId, ixOf, cellsOf, cut_zero, cut_p1, cut_p2, cut_p3, cut_p4, cut_app, cut_app0, cut_app1, cut_push, cut_put_lt, cut_put_ge, cut_ice, new_lt, new_lt2, new_lt3, new_lt4, new_le2, new_le3, new_le4, eqn_a, eqn_b, eqn_c, eqn_d, eqn_e, eqn_f, next_cut, get_cut, put_put, idsOfL_append, renL_append, idsOfL_bytes, idsOfL_strs, idsOfL_ints, renL_bytes, renL_strs, renL_ints, frzL_bytes, frzL_strs, frzL_ints, frzL_drop, frzL_take, idsOfL_drop, idsOfL_take, renL_drop, renL_take, toBytes_map, toBytes_drop, toBytes_take, toBytes_td, idsOf_byteC, ren_byteC, frz_byteC, next_empty, vSlice, vSliceA, aSlice, aBoundO, aBound, aShift, aSliceStr, accL, blkL, rdFin, c1, c2, h1, x1, x2, hfull, p1, p2, p3, hpl, ok_push, hH, cut_self _ hH, ice_new hH]
  | some q =>
    obtain ⟨r, n⟩ := q
    have hn := oneOf_pos ho
    rw [List.length_drop] at hn
    rw [ho] at h1
    simp only [oneAV] at h1
    have hw : IntKind.i64.wrap ((u : Int) + (n : Int)) = (u : Int) + n := by rw [wrap_i64] <;> omega
    have w3 : (p.length + 1) * 24 ≤ 70368744177664 ∧ p.length + 1 ≤ 70368744177664 := by omega
    simp (maxDischargeDepth := 20) [VB24_0, vst_some, vgd_true, vgd_false, vgo_nil, vgo_cons, vgo_guard, bwanted_some, vop_p, vop_l, vop_k, vop_n, vnorm_some, vseqc_normal, vseqc_exit, vseqc_ret, vcondc_true, vcondc_false, vexec_dreg, vdgo_nil, vdgo_p, vdgo_l, vdgo_k, vdgo_n, vdgo_gp, vdgo_gl, vdgo_gk, vdgo_gn, vdp_some, vdl_some, vdk_some, vdn_some, vdw_true, vdw_false, room_zero, room_put, get_room, next_room, get_hide, hide_zero, vexec_skip, vexec_exit, vexec_ret, vexec_reg, vexec_seq, vexec_cond, vexec_block, vexec_loop, blockO_exit, blockO_normal, blockO_ret, vfin_some, vend_normal, vend_ret, vbody_eq, outO_normal, outO_exit, outO_ret, vround_eq, vkeep_false, bkeep_cons, bkeep_nil, bput_some, bput_none, look_cons, look_nil, AOp.sub, POp.sub, LOp.sub, KOp.sub, NOp.sub, AX.sub, AX.subO, AX.ev, vP, vL, vK, vN, vElems, vElemSize, aP, aL, aK, aN, cB_add, cB_sub, cB_mul, cB_eql, cB_neq, cB_lss, cB_leq, cB_gtr, cB_geq, cB_xor, cB_and, cB_or, cS_eql, cS_neq, cS_lss, cS_leq, cS_gtr, cS_geq, aLoad, aBytesStr, aElems, aElemSize, Mk.val, next_push, next_put, get_push, get_put, Heap.read, List.replicate, List.replicate_succ, start, vRes, vResL, vResults, List.headD, vfrz_some, vexit_eq, vexit1_frozen, vexit1_gc, vexit2_some, solV, solL, solz_succ, solz_zero, solF_some, sol1, List.tail_cons, List.tail_nil, frzL_nil, frzL_cons', frzM_some, frz_int, frz_bool, frz_str, frz_nilFunc, frz_undef, frz_list, frz_elem, frz_nilptr, frz_nilmap, frz_fn, frz_ptr, frz_nilslice, frz_func, frz_agg, frz_tuple, frz_slice, frz_acc, frzS_eq, frzTidy_nil, ice_nil, next_ice, get_ice, iceB_some, vAppend, fitsB, aFill, aPart, aUn, AV.cells?, AV.isCell, reps, byteC_def, accB, blkB, fr1, List.drop_succ_cons, List.drop_zero, List.drop_nil, vkeep_true, gc, gcIds, reach, grow, idsOfL, idsOf, ddup, gcPush, gcTidy, zipKeep, renL, ren, renId, ixOf, cellsOf, cut_zero, cut_p1, cut_p2, cut_p3, cut_p4, cut_app, cut_app0, cut_app1, cut_push, cut_put_lt, cut_put_ge, cut_ice, new_lt, new_lt2, new_lt3, new_lt4, new_le2, new_le3, new_le4, eqn_a, eqn_b, eqn_c, eqn_d, eqn_e, eqn_f, next_cut, get_cut, put_put, idsOfL_append, renL_append, idsOfL_bytes, idsOfL_strs, idsOfL_ints, renL_bytes, renL_strs, renL_ints, frzL_bytes, frzL_strs, frzL_ints, frzL_drop, frzL_take, idsOfL_drop, idsOfL_take, renL_drop, renL_take, toBytes_map, toBytes_drop, toBytes_take, toBytes_td, idsOf_byteC, ren_byteC, frz_byteC, next_empty, vSlice, vSliceA, aSlice, aBoundO, aBound, aShift, aSliceStr, accL, blkL, c1, c2, h1, x1, x2, hfull, hw, w3, p1, p2, p3, hpl, ok_push, hH, cut_self _ hH, ice_new hH]

theorem rd_loop {kn K d : Nat} (hk : isKn kn = true) (hK : 1099511627776 < K) (H : Heap) (hH : H.Ok) (b : List UInt8) (ex : Bool) (hb : b.length + 2 ≤ 1099511627776) :
    VU24_0 (vcall kn vtab K (d + 4 + 1)) K (fr1 H) K ([(0, .list 1 b.length (b.map byteC) ex), (2, accL H []), (3, .int .i64 0)], blkL H []) = some (.ret, [(2, accL H (readR b).1), (3, .int .i64 (readR b).2)], blkL H (readR b).1) := by
  have : VU24_0 (vcall kn vtab K (d + 4 + 1)) K (fr1 H) K ([(0, .list 1 b.length (b.map byteC) ex), (2, accL H []), (3, .int .i64 0)], blkL H []) = some (rdFin H (runL (rdStep b) ([], 0) (List.replicate (b.length + 1) ()))) :=
    vrun_listE (L := List.replicate (b.length + 1) ()) (st := fun s _ => ([(0, .list 1 b.length (b.map byteC) ex), (2, accL H s.1), (3, .int .i64 s.2)], blkL H s.1)) (fin := rdFin H) (step := rdStep b)
      (fun s i => i ≤ s.2 ∧ s.2 ≤ b.length ∧ s.1.length ≤ i)
      (fun s i s' hi hp he => by
        have h := rd_round (d := d) hk hK H hH b ex (by omega) s.1 s.2 hp.2.1 (by omega)
        rw [show rdStep b (s.1, s.2) () = .inl s' from he] at h
        refine ⟨?_, h⟩
        simp only [rdStep] at he
        cases ho : oneOf (b.drop s.2) with
        | none => rw [ho] at he; cases he
        | some q =>
          rw [ho] at he
          obtain rfl := Sum.inl.inj he
          have := oneOf_pos (b := b.drop s.2) (r := q.1) (n := q.2) ho
          rw [List.length_drop] at this
          simp only [List.length_append, List.length_cons, List.length_nil]
          omega)
      (fun s i e hi hp he => by
        have h := rd_round (d := d) hk hK H hH b ex (by omega) s.1 s.2 hp.2.1 (by omega)
        rw [show rdStep b (s.1, s.2) () = .inr e from he] at h
        exact h)
      (fun s hp => by
        have := hp.1
        have := hp.2.1
        simp only [List.length_replicate] at *
        omega) (List.replicate (b.length + 1) ()) 0 K ([], 0) rfl (Nat.zero_le _) ⟨Nat.le_refl _, Nat.zero_le _, Nat.le_refl _⟩ (by simp; omega)
  rw [this]
  unfold readR
  cases runL (rdStep b) ([], 0) (List.replicate (b.length + 1) ()) <;> rfl

theorem read_spec {kn K d : Nat} (hk : isKn kn = true) (hK : 1099511627776 < K) (fr : Fr) (H : Heap) (hH : H.Ok) (b : List UInt8) (ex : Bool) (hb : b.length + 2 ≤ 1099511627776) :
    vcallB (vcall kn vtab K (d + 4 + 1)) vtab K fr 24 [.list 1 b.length (b.map byteC) ex] H = some (.tuple [lstL (readR b).1, .int .i64 (readR b).2], H) := by
  rw [body_bare rfl rfl]
  have h1 := rd_loop (d := d) hk hK H hH b ex hb
  generalize readR b = q at *
  obtain ⟨p, u⟩ := q
  have p1 := idsOfL_lst p
  have p2 := fun m q => renL_lst m q p
  have p3 := fun H n e => frzL_lst H n e p
  have hpl : (p.map lst).length = p.length := by simp
  have ht : List.take p.length (p.map lst) = p.map lst := List.take_of_length_le (by simp)
  simp only [accL, blkL, fr1, List.length_nil, List.map_nil] at h1
  simp (maxDischargeDepth := 20) [VF24, vst_some, vgd_true, vgd_false, vgo_nil, vgo_cons, vgo_guard, bwanted_some, vop_p, vop_l, vop_k, vop_n, vnorm_some, vseqc_normal, vseqc_exit, vseqc_ret, vcondc_true, vcondc_false, vexec_dreg, vdgo_nil, vdgo_p, vdgo_l, vdgo_k, vdgo_n, vdgo_gp, vdgo_gl, vdgo_gk, vdgo_gn, vdp_some, vdl_some, vdk_some, vdn_some, vdw_true, vdw_false, room_zero, room_put, get_room, next_room, get_hide, hide_zero, vexec_skip, vexec_exit, vexec_ret, vexec_reg, vexec_seq, vexec_cond, vexec_block, vexec_loop, blockO_exit, blockO_normal, blockO_ret, vfin_some, vend_normal, vend_ret, vbody_eq, outO_normal, outO_exit, outO_ret, vround_eq, vkeep_false, bkeep_cons, bkeep_nil, bput_some, bput_none, look_cons, look_nil, AOp.sub, POp.sub, LOp.sub, KOp.sub, NOp.sub, AX.sub, AX.subO, AX.ev, vP, vL, vK, vN, vElems, vElemSize, aP, aL, aK, aN, cB_add, cB_sub, cB_mul, cB_eql, cB_neq, cB_lss, cB_leq, cB_gtr, cB_geq, cB_xor, cB_and, cB_or, cS_eql, cS_neq, cS_lss, cS_leq, cS_gtr, cS_geq, aLoad, aBytesStr, aElems, aElemSize, Mk.val, next_push, next_put, get_push, get_put, Heap.read, List.replicate, List.replicate_succ, start, vRes, vResL, vResults, List.headD, vfrz_some, vexit_eq, vexit1_frozen, vexit1_gc, vexit2_some, solV, solL, solz_succ, solz_zero, solF_some, sol1, List.tail_cons, List.tail_nil, frzL_nil, frzL_cons', frzM_some, frz_int, frz_bool, frz_str, frz_nilFunc, frz_undef, frz_list, frz_elem, frz_nilptr, frz_nilmap, frz_fn, frz_ptr, frz_nilslice, frz_func, frz_agg, frz_tuple, frz_slice, frz_acc, frzS_eq, frzTidy_nil, ice_nil, next_ice, get_ice, iceB_some, vAppend, fitsB, aFill, aPart, aUn, AV.cells?, AV.isCell, reps, byteC_def, accB, blkB, fr1, List.drop_succ_cons, List.drop_zero, List.drop_nil, vkeep_true, gc, gcIds, reach, grow, idsOfL, idsOf, ddup, gcPush, gcTidy, zipKeep, renL, ren, renId, ixOf, cellsOf, cut_zero, cut_p1, cut_p2, cut_p3, cut_p4, cut_app, cut_app0, cut_app1, cut_push, cut_put_lt, cut_put_ge, cut_ice, new_lt, new_lt2, new_lt3, new_lt4, new_le2, new_le3, new_le4, eqn_a, eqn_b, eqn_c, eqn_d, eqn_e, eqn_f, next_cut, get_cut, put_put, idsOfL_append, renL_append, idsOfL_bytes, idsOfL_strs, idsOfL_ints, renL_bytes, renL_strs, renL_ints, frzL_bytes, frzL_strs, frzL_ints, frzL_drop, frzL_take, idsOfL_drop, idsOfL_take, renL_drop, renL_take, toBytes_map, toBytes_drop, toBytes_take, toBytes_td, idsOf_byteC, ren_byteC, frz_byteC, next_empty, h1, p1, p2, p3, hpl, ht, ok_push, hH, cut_self _ hH, ice_new hH]

end Go.Proofs.Ytachollgbplikaa
