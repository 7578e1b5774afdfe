/- LockTells, in V. -/
import Derived.Test.YteibgagdnidojaaSpLock
import Derived.Test.YteibgagdnidojaaAm33
set_option linter.all false
namespace Go.Proofs.Yteibgagdnidojaa

structure RawL where
  what : Int
  role : Int
  peer : Int
  nonce : Int
  shard : Int
  til : Int

def rawc (r : RawL) : List AV := [.int .i64 r.what, .int .i64 r.role, .int .i64 r.peer, .int .i64 r.nonce, .int .i64 r.shard, .int .i64 r.til]
def rawd (r : RawL) : D := .agg [.int .i64 r.what, .int .i64 r.role, .int .i64 r.peer, .int .i64 r.nonce, .int .i64 r.shard, .int .i64 r.til]
def i64 (n : Int) : Prop := -9223372036854775808 ≤ n ∧ n ≤ 9223372036854775807
def RawL.ok (r : RawL) : Prop := i64 r.what ∧ i64 r.role ∧ i64 r.peer ∧ i64 r.nonce ∧ i64 r.shard ∧ i64 r.til

theorem is_rawL {d : D} (h : D.is (.agg [.int .i64, .int .i64, .int .i64, .int .i64, .int .i64, .int .i64]) d) : ∃ r : RawL, d = rawd r ∧ r.ok := by
  obtain ⟨l, rfl, h⟩ := h
  obtain ⟨d1, r1, rfl, i1, h⟩ := are_cons h
  obtain ⟨d2, r2, rfl, i2, h⟩ := are_cons h
  obtain ⟨d3, r3, rfl, i3, h⟩ := are_cons h
  obtain ⟨d4, r4, rfl, i4, h⟩ := are_cons h
  obtain ⟨d5, r5, rfl, i5, h⟩ := are_cons h
  obtain ⟨d6, r6, rfl, i6, h⟩ := are_cons h
  obtain rfl := are_nil h
  obtain ⟨n1, rfl, a1⟩ := i1
  obtain ⟨n2, rfl, a2⟩ := i2
  obtain ⟨n3, rfl, a3⟩ := i3
  obtain ⟨n4, rfl, a4⟩ := i4
  obtain ⟨n5, rfl, a5⟩ := i5
  obtain ⟨n6, rfl, a6⟩ := i6
  exact ⟨⟨n1, n2, n3, n4, n5, n6⟩, rfl, a1, a2, a3, a4, a5, a6⟩

theorem encL_rawL (L : List RawL) : encL (.agg [.int .i64, .int .i64, .int .i64, .int .i64, .int .i64, .int .i64]) (L.map rawd) = L.flatMap rawc := encL_map (fun _ => rfl) L
theorem lkc_len (l : Lk) : (lkc l).length = 5 := rfl
theorem lkc_take (l : Lk) : (lkc l).take 5 = lkc l := rfl
theorem lkc_same (l : Lk) : aEqKs [.i, .i, .i, .i, .i] (lkc l) (lkc l) = some true := by simp [aEqKs, aEqK, lkc]
theorem lkc_ids (l : Lk) : idsOfL (lkc l) = [] := rfl
theorem lkc_ren (m : Nat) (p : List Nat) (l : Lk) : renL m p (lkc l) = lkc l := rfl
theorem lkc_zero : lkc .zero = [.int .i64 0, .int .i64 0, .int .i64 0, .int .i64 0, .int .i64 0] := rfl

namespace lockTells

def lstep (l : Lk) (x : RawL) : Lk :=
  if x.what % 5 = 0 ∨ x.what % 5 = 1 then l.hold (x.role % 5 - 1) (x.peer % 4) (x.nonce % 4) x.shard (x.til % 20)
  else if x.what % 5 = 2 then l.expire (x.til % 20)
  else if x.what % 5 = 3 then .zero
  else l

def two (l : Lk) : Heap := (Heap.empty.push (.cells (lkc l) false false)).push (.cells (lkc l) false false)

theorem round (L : List RawL) (hL : ∀ x ∈ L, x.ok) (hlen : L.length ≤ 1048576) (l : Lk) (i : Nat) (hi : i < L.length) :
    vround (vexec (vcall 33 vtab KK 29) KK { mark := 0, tidy := [] } 80 VB8_0) true { mark := 0, tidy := [] } [3, 4, 13, 14, 15] [2]
      ([(3, .ptr (some (0, 0))), (4, .ptr (some (1, 0))), (13, .list 6 L.length (L.flatMap rawc) false), (14, .int .i64 L.length), (15, .int .i64 i)], two l) =
    some (.inl ([(3, .ptr (some (0, 0))), (4, .ptr (some (1, 0))), (13, .list 6 L.length (L.flatMap rawc) false), (14, .int .i64 L.length), (15, .int .i64 (i + 1 : Nat))], two (lstep l L[i]))) := by
  have hk : isKn 33 = true := rfl
  obtain ⟨o1, o2, o3, o4, o5, o6⟩ := hL L[i] (List.getElem_mem hi)
  have hel := drop_flat (f := rawc) (sz := 6) (fun _ => rfl) L i hi
  generalize hx : L[i] = x at *
  obtain ⟨w, ro, pe, no, sh, ti⟩ := x
  simp only [i64] at o1 o2 o3 o4 o5 o6
  have hw : IntKind.i64.wrap ((i : Int) + 1) = (i : Int) + 1 := by rw [wrap_i64] <;> omega
  have hro := Int.emod_nonneg ro (show (5 : Int) ≠ 0 by omega)
  have hro2 := Int.emod_lt_of_pos ro (show (0 : Int) < 5 by omega)
  have hw2 : IntKind.i64.wrap (ro % 5 - 1) = ro % 5 - 1 := by rw [wrap_i64] <;> omega
  have hwh := Int.emod_nonneg w (show (5 : Int) ≠ 0 by omega)
  have hwh2 := Int.emod_lt_of_pos w (show (0 : Int) < 5 by omega)
  have p1 := fun H hH => pick_spec (K := KK) (d := 28) hk { mark := 0, tidy := [] } H hH ro 5 (by omega) o2 (by omega)
  have p2 := fun H hH => pick_spec (K := KK) (d := 28) hk { mark := 0, tidy := [] } H hH pe 4 (by omega) o3 (by omega)
  have p3 := fun H hH => pick_spec (K := KK) (d := 28) hk { mark := 0, tidy := [] } H hH no 4 (by omega) o4 (by omega)
  have p4 := fun H hH => pick_spec (K := KK) (d := 28) hk { mark := 0, tidy := [] } H hH ti 20 (by omega) o6 (by omega)
  have p5 := fun H hH => pick_spec (K := KK) (d := 28) hk { mark := 0, tidy := [] } H hH w 5 (by omega) o1 (by omega)
  have h1 := fun H hH hb => hold_spec (K := KK) (d := 28) hk { mark := 0, tidy := [] } H hH 0 l false hb (.inl (Nat.zero_le _)) (ro % 5 - 1) (pe % 4) (no % 4) sh (ti % 20)
  have h2 := fun H hH hb => rhold_spec (K := KK) (d := 28) hk { mark := 0, tidy := [] } H hH 1 l false hb (.inl (Nat.zero_le _)) (ro % 5 - 1) (pe % 4) (no % 4) sh (ti % 20)
  have e1 := fun H hH hb => expire_spec (K := KK) (d := 27) hk { mark := 0, tidy := [] } H hH 0 l false hb (.inl (Nat.zero_le _)) (ti % 20)
  have e2 := fun H hH hb => rexpire_spec (K := KK) (d := 27) hk { mark := 0, tidy := [] } H hH 1 l false hb (.inl (Nat.zero_le _)) (ti % 20)
  have q1 := fun H hH hb => drop_spec (K := KK) (d := 28) hk { mark := 0, tidy := [] } H hH 0 l false hb (.inl (Nat.zero_le _))
  have q2 := fun H hH hb => rdrop_spec (K := KK) (d := 28) hk { mark := 0, tidy := [] } H hH 1 l false hb (.inl (Nat.zero_le _))
  have s1 := fun l H hH hb => is_spec (K := KK) (d := 28) hk { mark := 0, tidy := [] } H hH 0 l false hb (.inl (Nat.zero_le _)) (ro % 5 - 1) (pe % 4) (no % 4)
  have s2 := fun l H hH hb => ris_spec (K := KK) (d := 28) hk { mark := 0, tidy := [] } H hH 1 l false hb (.inl (Nat.zero_le _)) (ro % 5 - 1) (pe % 4) (no % 4)
  simp only [Nat.reduceAdd] at p1 p2 p3 p4 p5 h1 h2 e1 e2 q1 q2 s1 s2
  have cs : w % 5 = 0 ∨ w % 5 = 1 ∨ w % 5 = 2 ∨ w % 5 = 3 ∨ w % 5 = 4 := by omega
  rcases cs with hc | hc | hc | hc | hc
  · have t1 := s1 (l.hold (ro % 5 - 1) (pe % 4) (no % 4) sh (ti % 20))
    have t2 := s2 (l.hold (ro % 5 - 1) (pe % 4) (no % 4) sh (ti % 20))
    simp (maxDischargeDepth := 20) [VB8_0, vst_some, vgd_true, vgd_false, vgo_nil, vgo_cons, vgo_guard, bwanted_some, vop_p, vop_l, vop_k, vop_n, vnorm_some, vseqc_normal, vseqc_exit, vseqc_ret, vcondc_true, vcondc_false, vexec_dreg, vdgo_nil, vdgo_p, vdgo_l, vdgo_k, vdgo_n, vdgo_gp, vdgo_gl, vdgo_gn, vdp_some, vdl_some, vdk_some, vdn_some, vdw_true, vdw_false, room_zero, room_put, get_room, next_room, get_hide, hide_zero, vexec_skip, vexec_exit, vexec_ret, vexec_reg, vexec_seq, vexec_cond, vexec_block, vexec_loop, blockO_exit, blockO_normal, blockO_ret, vfin_some, vend_normal, vend_ret, vbody_eq, outO_normal, outO_exit, outO_ret, vround_eq, vkeep_false, bkeep_cons, bkeep_nil, bput_some, bput_none, look_cons, look_nil, AOp.sub, POp.sub, LOp.sub, KOp.sub, NOp.sub, AX.sub, AX.subO, AX.ev, vP, vL, vK, vN, vElems, vElemSize, aP, aL, aK, aN, cB_add, cB_sub, cB_mul, cB_eql, cB_neq, cB_lss, cB_leq, cB_gtr, cB_geq, cB_xor, cB_and, cB_or, cS_eql, cS_neq, cS_lss, cS_leq, cS_gtr, cS_geq, aLoad, aBytesStr, aElems, aElemSize, Mk.val, next_push, next_put, get_push, get_put, Heap.read, List.replicate, List.replicate_succ, start, vRes, vResL, vResults, List.headD, cut_zero, vexit, fz, fzL, fzTidy, reach, grow, idsOfL, idsOf, cellsOf, cut_put_lt, cut_push, put_put, okStore, aStore, ptrOk, AV.cells?, AV.isCell, Heap.write, aFill, aPart, aEqKs, aEqK, aUn, next_empty, loadOk, ofList, isList, bornL, bornX, bornOf, bornPut, bornP, known, knownL, AV.same, List.all_cons, List.all_nil, List.drop_zero, List.isEmpty_cons, List.isEmpty_nil, two, lstep, hi, hel, hw, hw2, hc, rawc, p1, p2, p3, p4, p5, h1, h2, t1, t2, ok_push, ok_put, ok_empty, lkc_len, lkc_take, lkc_same, cut_zero, vkeep_true, gc, gcIds, reach, grow, idsOfL, idsOf, ddup, gcPush, gcTidy, zipKeep, renL, ren, renId, ixOf, cellsOf, cut_push, cut_put_lt, cut_put_ge, next_cut, get_cut, put_put, idsOfL_bytes, idsOfL_strs, idsOfL_ints, idsOfL_append, renL_bytes, renL_strs, renL_ints, renL_append, fzL_bytes, fzL_strs, fzL_ints, lkc_ids, lkc_ren, cut_empty]
  · have t1 := s1 (l.hold (ro % 5 - 1) (pe % 4) (no % 4) sh (ti % 20))
    have t2 := s2 (l.hold (ro % 5 - 1) (pe % 4) (no % 4) sh (ti % 20))
    simp (maxDischargeDepth := 20) [VB8_0, vst_some, vgd_true, vgd_false, vgo_nil, vgo_cons, vgo_guard, bwanted_some, vop_p, vop_l, vop_k, vop_n, vnorm_some, vseqc_normal, vseqc_exit, vseqc_ret, vcondc_true, vcondc_false, vexec_dreg, vdgo_nil, vdgo_p, vdgo_l, vdgo_k, vdgo_n, vdgo_gp, vdgo_gl, vdgo_gn, vdp_some, vdl_some, vdk_some, vdn_some, vdw_true, vdw_false, room_zero, room_put, get_room, next_room, get_hide, hide_zero, vexec_skip, vexec_exit, vexec_ret, vexec_reg, vexec_seq, vexec_cond, vexec_block, vexec_loop, blockO_exit, blockO_normal, blockO_ret, vfin_some, vend_normal, vend_ret, vbody_eq, outO_normal, outO_exit, outO_ret, vround_eq, vkeep_false, bkeep_cons, bkeep_nil, bput_some, bput_none, look_cons, look_nil, AOp.sub, POp.sub, LOp.sub, KOp.sub, NOp.sub, AX.sub, AX.subO, AX.ev, vP, vL, vK, vN, vElems, vElemSize, aP, aL, aK, aN, cB_add, cB_sub, cB_mul, cB_eql, cB_neq, cB_lss, cB_leq, cB_gtr, cB_geq, cB_xor, cB_and, cB_or, cS_eql, cS_neq, cS_lss, cS_leq, cS_gtr, cS_geq, aLoad, aBytesStr, aElems, aElemSize, Mk.val, next_push, next_put, get_push, get_put, Heap.read, List.replicate, List.replicate_succ, start, vRes, vResL, vResults, List.headD, cut_zero, vexit, fz, fzL, fzTidy, reach, grow, idsOfL, idsOf, cellsOf, cut_put_lt, cut_push, put_put, okStore, aStore, ptrOk, AV.cells?, AV.isCell, Heap.write, aFill, aPart, aEqKs, aEqK, aUn, next_empty, loadOk, ofList, isList, bornL, bornX, bornOf, bornPut, bornP, known, knownL, AV.same, List.all_cons, List.all_nil, List.drop_zero, List.isEmpty_cons, List.isEmpty_nil, two, lstep, hi, hel, hw, hw2, hc, rawc, p1, p2, p3, p4, p5, h1, h2, t1, t2, ok_push, ok_put, ok_empty, lkc_len, lkc_take, lkc_same, cut_zero, vkeep_true, gc, gcIds, reach, grow, idsOfL, idsOf, ddup, gcPush, gcTidy, zipKeep, renL, ren, renId, ixOf, cellsOf, cut_push, cut_put_lt, cut_put_ge, next_cut, get_cut, put_put, idsOfL_bytes, idsOfL_strs, idsOfL_ints, idsOfL_append, renL_bytes, renL_strs, renL_ints, renL_append, fzL_bytes, fzL_strs, fzL_ints, lkc_ids, lkc_ren, cut_empty]
  · have t1 := s1 (l.expire (ti % 20))
    have t2 := s2 (l.expire (ti % 20))
    simp (maxDischargeDepth := 20) [VB8_0, vst_some, vgd_true, vgd_false, vgo_nil, vgo_cons, vgo_guard, bwanted_some, vop_p, vop_l, vop_k, vop_n, vnorm_some, vseqc_normal, vseqc_exit, vseqc_ret, vcondc_true, vcondc_false, vexec_dreg, vdgo_nil, vdgo_p, vdgo_l, vdgo_k, vdgo_n, vdgo_gp, vdgo_gl, vdgo_gn, vdp_some, vdl_some, vdk_some, vdn_some, vdw_true, vdw_false, room_zero, room_put, get_room, next_room, get_hide, hide_zero, vexec_skip, vexec_exit, vexec_ret, vexec_reg, vexec_seq, vexec_cond, vexec_block, vexec_loop, blockO_exit, blockO_normal, blockO_ret, vfin_some, vend_normal, vend_ret, vbody_eq, outO_normal, outO_exit, outO_ret, vround_eq, vkeep_false, bkeep_cons, bkeep_nil, bput_some, bput_none, look_cons, look_nil, AOp.sub, POp.sub, LOp.sub, KOp.sub, NOp.sub, AX.sub, AX.subO, AX.ev, vP, vL, vK, vN, vElems, vElemSize, aP, aL, aK, aN, cB_add, cB_sub, cB_mul, cB_eql, cB_neq, cB_lss, cB_leq, cB_gtr, cB_geq, cB_xor, cB_and, cB_or, cS_eql, cS_neq, cS_lss, cS_leq, cS_gtr, cS_geq, aLoad, aBytesStr, aElems, aElemSize, Mk.val, next_push, next_put, get_push, get_put, Heap.read, List.replicate, List.replicate_succ, start, vRes, vResL, vResults, List.headD, cut_zero, vexit, fz, fzL, fzTidy, reach, grow, idsOfL, idsOf, cellsOf, cut_put_lt, cut_push, put_put, okStore, aStore, ptrOk, AV.cells?, AV.isCell, Heap.write, aFill, aPart, aEqKs, aEqK, aUn, next_empty, loadOk, ofList, isList, bornL, bornX, bornOf, bornPut, bornP, known, knownL, AV.same, List.all_cons, List.all_nil, List.drop_zero, List.isEmpty_cons, List.isEmpty_nil, two, lstep, hi, hel, hw, hw2, hc, rawc, p1, p2, p3, p4, p5, e1, e2, t1, t2, ok_push, ok_put, ok_empty, lkc_len, lkc_take, lkc_same, cut_zero, vkeep_true, gc, gcIds, reach, grow, idsOfL, idsOf, ddup, gcPush, gcTidy, zipKeep, renL, ren, renId, ixOf, cellsOf, cut_push, cut_put_lt, cut_put_ge, next_cut, get_cut, put_put, idsOfL_bytes, idsOfL_strs, idsOfL_ints, idsOfL_append, renL_bytes, renL_strs, renL_ints, renL_append, fzL_bytes, fzL_strs, fzL_ints, lkc_ids, lkc_ren, cut_empty]
  · have t1 := s1 Lk.zero
    have t2 := s2 Lk.zero
    simp (maxDischargeDepth := 20) [VB8_0, vst_some, vgd_true, vgd_false, vgo_nil, vgo_cons, vgo_guard, bwanted_some, vop_p, vop_l, vop_k, vop_n, vnorm_some, vseqc_normal, vseqc_exit, vseqc_ret, vcondc_true, vcondc_false, vexec_dreg, vdgo_nil, vdgo_p, vdgo_l, vdgo_k, vdgo_n, vdgo_gp, vdgo_gl, vdgo_gn, vdp_some, vdl_some, vdk_some, vdn_some, vdw_true, vdw_false, room_zero, room_put, get_room, next_room, get_hide, hide_zero, vexec_skip, vexec_exit, vexec_ret, vexec_reg, vexec_seq, vexec_cond, vexec_block, vexec_loop, blockO_exit, blockO_normal, blockO_ret, vfin_some, vend_normal, vend_ret, vbody_eq, outO_normal, outO_exit, outO_ret, vround_eq, vkeep_false, bkeep_cons, bkeep_nil, bput_some, bput_none, look_cons, look_nil, AOp.sub, POp.sub, LOp.sub, KOp.sub, NOp.sub, AX.sub, AX.subO, AX.ev, vP, vL, vK, vN, vElems, vElemSize, aP, aL, aK, aN, cB_add, cB_sub, cB_mul, cB_eql, cB_neq, cB_lss, cB_leq, cB_gtr, cB_geq, cB_xor, cB_and, cB_or, cS_eql, cS_neq, cS_lss, cS_leq, cS_gtr, cS_geq, aLoad, aBytesStr, aElems, aElemSize, Mk.val, next_push, next_put, get_push, get_put, Heap.read, List.replicate, List.replicate_succ, start, vRes, vResL, vResults, List.headD, cut_zero, vexit, fz, fzL, fzTidy, reach, grow, idsOfL, idsOf, cellsOf, cut_put_lt, cut_push, put_put, okStore, aStore, ptrOk, AV.cells?, AV.isCell, Heap.write, aFill, aPart, aEqKs, aEqK, aUn, next_empty, loadOk, ofList, isList, bornL, bornX, bornOf, bornPut, bornP, known, knownL, AV.same, List.all_cons, List.all_nil, List.drop_zero, List.isEmpty_cons, List.isEmpty_nil, two, lstep, hi, hel, hw, hw2, hc, rawc, p1, p2, p3, p4, p5, q1, q2, t1, t2, ok_push, ok_put, ok_empty, lkc_len, lkc_take, lkc_same, cut_zero, vkeep_true, gc, gcIds, reach, grow, idsOfL, idsOf, ddup, gcPush, gcTidy, zipKeep, renL, ren, renId, ixOf, cellsOf, cut_push, cut_put_lt, cut_put_ge, next_cut, get_cut, put_put, idsOfL_bytes, idsOfL_strs, idsOfL_ints, idsOfL_append, renL_bytes, renL_strs, renL_ints, renL_append, fzL_bytes, fzL_strs, fzL_ints, lkc_ids, lkc_ren, cut_empty]
  · have t1 := s1 l
    have t2 := s2 l
    simp (maxDischargeDepth := 20) [VB8_0, vst_some, vgd_true, vgd_false, vgo_nil, vgo_cons, vgo_guard, bwanted_some, vop_p, vop_l, vop_k, vop_n, vnorm_some, vseqc_normal, vseqc_exit, vseqc_ret, vcondc_true, vcondc_false, vexec_dreg, vdgo_nil, vdgo_p, vdgo_l, vdgo_k, vdgo_n, vdgo_gp, vdgo_gl, vdgo_gn, vdp_some, vdl_some, vdk_some, vdn_some, vdw_true, vdw_false, room_zero, room_put, get_room, next_room, get_hide, hide_zero, vexec_skip, vexec_exit, vexec_ret, vexec_reg, vexec_seq, vexec_cond, vexec_block, vexec_loop, blockO_exit, blockO_normal, blockO_ret, vfin_some, vend_normal, vend_ret, vbody_eq, outO_normal, outO_exit, outO_ret, vround_eq, vkeep_false, bkeep_cons, bkeep_nil, bput_some, bput_none, look_cons, look_nil, AOp.sub, POp.sub, LOp.sub, KOp.sub, NOp.sub, AX.sub, AX.subO, AX.ev, vP, vL, vK, vN, vElems, vElemSize, aP, aL, aK, aN, cB_add, cB_sub, cB_mul, cB_eql, cB_neq, cB_lss, cB_leq, cB_gtr, cB_geq, cB_xor, cB_and, cB_or, cS_eql, cS_neq, cS_lss, cS_leq, cS_gtr, cS_geq, aLoad, aBytesStr, aElems, aElemSize, Mk.val, next_push, next_put, get_push, get_put, Heap.read, List.replicate, List.replicate_succ, start, vRes, vResL, vResults, List.headD, cut_zero, vexit, fz, fzL, fzTidy, reach, grow, idsOfL, idsOf, cellsOf, cut_put_lt, cut_push, put_put, okStore, aStore, ptrOk, AV.cells?, AV.isCell, Heap.write, aFill, aPart, aEqKs, aEqK, aUn, next_empty, loadOk, ofList, isList, bornL, bornX, bornOf, bornPut, bornP, known, knownL, AV.same, List.all_cons, List.all_nil, List.drop_zero, List.isEmpty_cons, List.isEmpty_nil, two, lstep, hi, hel, hw, hw2, hc, rawc, p1, p2, p3, p4, p5,  t1, t2, ok_push, ok_put, ok_empty, lkc_len, lkc_take, lkc_same, cut_zero, vkeep_true, gc, gcIds, reach, grow, idsOfL, idsOf, ddup, gcPush, gcTidy, zipKeep, renL, ren, renId, ixOf, cellsOf, cut_push, cut_put_lt, cut_put_ge, next_cut, get_cut, put_put, idsOfL_bytes, idsOfL_strs, idsOfL_ints, idsOfL_append, renL_bytes, renL_strs, renL_ints, renL_append, fzL_bytes, fzL_strs, fzL_ints, lkc_ids, lkc_ren, cut_empty]

def lfold (l : Lk) (L : List RawL) : Lk := L.foldl lstep l

theorem loop (L : List RawL) (hL : ∀ x ∈ L, x.ok) (hlen : L.length ≤ 1048576) :
    vrun (vexec (vcall 33 vtab KK 29) KK { mark := 0, tidy := [] } 80 VB8_0) true { mark := 0, tidy := [] } [3, 4, 13, 14, 15] [2] KK
      ([(3, .ptr (some (0, 0))), (4, .ptr (some (1, 0))), (13, .list 6 L.length (L.flatMap rawc) false), (14, .int .i64 L.length), (15, .int .i64 0)], two .zero) =
    some (.exit 0, [(2, .undef)], Heap.empty) :=
  vrun_list (L := L) (st := fun l i => ([(3, .ptr (some (0, 0))), (4, .ptr (some (1, 0))), (13, .list 6 L.length (L.flatMap rawc) false), (14, .int .i64 L.length), (15, .int .i64 i)], two l))
    (fin := fun l => (.exit 0, [(2, .undef)], Heap.empty)) (fun _ _ => True)
    (fun l i hi _ => ⟨trivial, round L hL hlen l i hi⟩)
    (fun l _ => by
      simp (maxDischargeDepth := 20) [VB8_0, vst_some, vgd_true, vgd_false, vgo_nil, vgo_cons, vgo_guard, bwanted_some, vop_p, vop_l, vop_k, vop_n, vnorm_some, vseqc_normal, vseqc_exit, vseqc_ret, vcondc_true, vcondc_false, vexec_dreg, vdgo_nil, vdgo_p, vdgo_l, vdgo_k, vdgo_n, vdgo_gp, vdgo_gl, vdgo_gn, vdp_some, vdl_some, vdk_some, vdn_some, vdw_true, vdw_false, room_zero, room_put, get_room, next_room, get_hide, hide_zero, vexec_skip, vexec_exit, vexec_ret, vexec_reg, vexec_seq, vexec_cond, vexec_block, vexec_loop, blockO_exit, blockO_normal, blockO_ret, vfin_some, vend_normal, vend_ret, vbody_eq, outO_normal, outO_exit, outO_ret, vround_eq, vkeep_false, bkeep_cons, bkeep_nil, bput_some, bput_none, look_cons, look_nil, AOp.sub, POp.sub, LOp.sub, KOp.sub, NOp.sub, AX.sub, AX.subO, AX.ev, vP, vL, vK, vN, vElems, vElemSize, aP, aL, aK, aN, cB_add, cB_sub, cB_mul, cB_eql, cB_neq, cB_lss, cB_leq, cB_gtr, cB_geq, cB_xor, cB_and, cB_or, cS_eql, cS_neq, cS_lss, cS_leq, cS_gtr, cS_geq, aLoad, aBytesStr, aElems, aElemSize, Mk.val, next_push, next_put, get_push, get_put, Heap.read, List.replicate, List.replicate_succ, start, vRes, vResL, vResults, List.headD, two, cut_zero, vkeep_true, gc, gcIds, reach, grow, idsOfL, idsOf, ddup, gcPush, gcTidy, zipKeep, renL, ren, renId, ixOf, cellsOf, cut_push, cut_put_lt, cut_put_ge, next_cut, get_cut, put_put, idsOfL_bytes, idsOfL_strs, idsOfL_ints, idsOfL_append, renL_bytes, renL_strs, renL_ints, renL_append, fzL_bytes, fzL_strs, fzL_ints, cut_empty]) L 0 KK .zero rfl (Nat.zero_le _) trivial (by have : KK = 2000000000000 := rfl; omega)

theorem pure : VLaw (fun xs => vcall 33 vtab KK 30 fr0 8 xs Heap.empty) [.list (.agg [.int .i64, .int .i64, .int .i64, .int .i64, .int .i64, .int .i64])] 1048576 := by
  intro ds hare hb
  obtain ⟨d1, r1, rfl, i1, hare⟩ := are_cons hare
  obtain rfl := are_nil hare
  obtain ⟨l, rfl, hl⟩ := i1
  obtain ⟨L, rfl, hL⟩ := is_map (f := rawd) (P := RawL.ok) (fun d hd => is_rawL hd) hl
  simp only [D.bulks, D.bulk] at hb
  have hlen := bulk_map (f := rawd) (n := 1048576) (fun x => by simp [rawd, D.bulk, D.bulks]) (L := L) (by omega)
  have hk : isKn 33 = true := rfl
  refine ⟨Heap.empty, ?_⟩
  simp only [encArgs, encArg, encS, encL_rawL, List.headD, List.length_map, shSize, shSizes, Nat.reduceAdd]
  rw [vcall_bare hk rfl rfl rfl]
  have lp := loop L hL hlen
  have kn := vcall_kn (kn := 33) (K := KK) (d := 28) (fr := { mark := 0, tidy := [] }) (H := Heap.empty)
  simp only [two, lkc_zero, Nat.reduceAdd] at lp kn
  simp (maxDischargeDepth := 20) [VF8, vst_some, vgd_true, vgd_false, vgo_nil, vgo_cons, vgo_guard, bwanted_some, vop_p, vop_l, vop_k, vop_n, vnorm_some, vseqc_normal, vseqc_exit, vseqc_ret, vcondc_true, vcondc_false, vexec_dreg, vdgo_nil, vdgo_p, vdgo_l, vdgo_k, vdgo_n, vdgo_gp, vdgo_gl, vdgo_gn, vdp_some, vdl_some, vdk_some, vdn_some, vdw_true, vdw_false, room_zero, room_put, get_room, next_room, get_hide, hide_zero, vexec_skip, vexec_exit, vexec_ret, vexec_reg, vexec_seq, vexec_cond, vexec_block, vexec_loop, blockO_exit, blockO_normal, blockO_ret, vfin_some, vend_normal, vend_ret, vbody_eq, outO_normal, outO_exit, outO_ret, vround_eq, vkeep_false, bkeep_cons, bkeep_nil, bput_some, bput_none, look_cons, look_nil, AOp.sub, POp.sub, LOp.sub, KOp.sub, NOp.sub, AX.sub, AX.subO, AX.ev, vP, vL, vK, vN, vElems, vElemSize, aP, aL, aK, aN, cB_add, cB_sub, cB_mul, cB_eql, cB_neq, cB_lss, cB_leq, cB_gtr, cB_geq, cB_xor, cB_and, cB_or, cS_eql, cS_neq, cS_lss, cS_leq, cS_gtr, cS_geq, aLoad, aBytesStr, aElems, aElemSize, Mk.val, next_push, next_put, get_push, get_put, Heap.read, List.replicate, List.replicate_succ, start, vRes, vResL, vResults, List.headD, cut_zero, vexit, fz, fzL, fzTidy, reach, grow, idsOfL, idsOf, cellsOf, cut_put_lt, cut_push, put_put, okStore, aStore, ptrOk, AV.cells?, AV.isCell, Heap.write, aFill, aPart, aEqKs, aEqK, aUn, next_empty, cut_zero, vkeep_true, gc, gcIds, reach, grow, idsOfL, idsOf, ddup, gcPush, gcTidy, zipKeep, renL, ren, renId, ixOf, cellsOf, cut_push, cut_put_lt, cut_put_ge, next_cut, get_cut, put_put, idsOfL_bytes, idsOfL_strs, idsOfL_ints, idsOfL_append, renL_bytes, renL_strs, renL_ints, renL_append, fzL_bytes, fzL_strs, fzL_ints, cut_empty, lp, kn]

end lockTells
end Go.Proofs.Yteibgagdnidojaa
