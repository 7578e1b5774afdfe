/- LockLasts, in V. -/
import Derived.Test.YteibgagdnidojaaPuLockTells
set_option linter.all false
namespace Go.Proofs.Yteibgagdnidojaa.lockLasts

def three (a : RawL) (l : Lk) : Heap := ((Heap.empty.push (.cells (rawc a) false false)).push (.cells (lkc l) false false)).push (.cells (lkc l) false false)
def two (a : RawL) (l : Lk) : Heap := (Heap.empty.push (.cells (rawc a) false false)).push (.cells (lkc l) false false)

theorem rawc_len (l : RawL) : (rawc l).length = 6 := rfl
theorem rawc_ids (l : RawL) : idsOfL (rawc l) = [] := rfl
theorem rawc_ren (m : Nat) (p : List Nat) (l : RawL) : renL m p (rawc l) = rawc l := rfl

set_option maxRecDepth 20000 in
set_option maxHeartbeats 8000000 in
theorem round (a : RawL) (u : Int) (hu : 0 ≤ u) (hu2 : u < 100) (ro : Int) (hro : ro = 1 ∨ ro = 2) (late : Int) (L : List RawL) (hL : ∀ x ∈ L, x.ok) (hlen : L.length ≤ 1048576) (i : Nat) (hi : i < L.length) :
    vround (vexec (vcall 33 vtab KK 29) KK { mark := 0, tidy := [] } 97 VB10_0) true { mark := 0, tidy := [] } [2, 3, 7, 8, 9, 10, 32, 33, 34] [2, 3, 6, 7, 8, 9]
      ([(2, .int .i64 late), (3, .ptr (some (0, 0))), (7, .ptr (some (1, 0))), (8, .int .i64 u), (9, .int .i64 ro), (10, .ptr (some (2, 0))), (32, .list 6 L.length (L.flatMap rawc) false), (33, .int .i64 L.length), (34, .int .i64 i)], three a ⟨ro, a.peer, a.nonce, a.shard, u⟩) =
    some (.inl ([(2, .int .i64 late), (3, .ptr (some (0, 0))), (7, .ptr (some (1, 0))), (8, .int .i64 u), (9, .int .i64 ro), (10, .ptr (some (2, 0))), (32, .list 6 L.length (L.flatMap rawc) false), (33, .int .i64 L.length), (34, .int .i64 (i + 1 : Nat))], three a ⟨ro, a.peer, a.nonce, a.shard, u⟩)) := by
  have hk : isKn 33 = true := rfl
  obtain ⟨o1, o2, o3, o4, o5, o6⟩ := hL L[i] (List.getElem_mem hi)
  have hel := drop_flat (f := rawc) (sz := 6) (fun _ => rfl) L i hi
  generalize hx : L[i] = x at *
  obtain ⟨w, xr, pe, no, sh, ti⟩ := x
  simp only [i64] at o1 o2 o3 o4 o5 o6
  have hw : IntKind.i64.wrap ((i : Int) + 1) = (i : Int) + 1 := by rw [wrap_i64] <;> omega
  have hw2 : IntKind.i64.wrap (u + 1) = u + 1 := by rw [wrap_i64] <;> omega
  have m1 := Int.emod_nonneg ti (show u + 1 ≠ 0 by omega)
  have m2 := Int.emod_lt_of_pos ti (show 0 < u + 1 by omega)
  have p1 := fun H hH => pick_spec (K := KK) (d := 28) hk { mark := 0, tidy := [] } H hH ti (u + 1) (by omega) o6 (by omega)
  generalize hl : (⟨ro, a.peer, a.nonce, a.shard, u⟩ : Lk) = l
  have f1 : l.free 1 = false := by subst hl; simp [Lk.free]; omega
  have f2 : l.over (ti % (u + 1)) = false := by subst hl; simp [Lk.over]; omega
  have f3 : l.expire (ti % (u + 1)) = l := by simp [Lk.expire, f2]
  have f4 : ∀ a b c d, l.hold 1 a b c d = l := by intro a b c d; simp [Lk.hold, f1]
  have s1 := fun H hH hb => is_spec (K := KK) (d := 28) hk { mark := 0, tidy := [] } H hH 1 l false hb (.inl (Nat.zero_le _)) xr pe no
  have e1 := fun H hH hb => expire_spec (K := KK) (d := 27) hk { mark := 0, tidy := [] } H hH 1 l false hb (.inl (Nat.zero_le _)) (ti % (u + 1))
  have h1 := fun H hH hb => hold_spec (K := KK) (d := 28) hk { mark := 0, tidy := [] } H hH 1 l false hb (.inl (Nat.zero_le _)) 1 pe no sh ti
  simp only [Nat.reduceAdd, f1, f2, f3, f4] at p1 s1 e1 h1
  simp (maxDischargeDepth := 20) [VB10_0, vst_some, vgd_true, vgd_false, vgo_nil, vgo_cons, vgo_guard, bwanted_some, vop_p, vop_l, vop_k, vop_n, vnorm_some, vseqc_normal, vseqc_exit, vseqc_ret, vcondc_true, vcondc_false, vexec_dreg, vdgo_nil, vdgo_p, vdgo_l, vdgo_k, vdgo_n, vdgo_gp, vdgo_gl, vdgo_gn, vdp_some, vdl_some, vdk_some, vdn_some, vdw_true, vdw_false, room_zero, room_put, get_room, next_room, get_hide, hide_zero, vexec_skip, vexec_exit, vexec_ret, vexec_reg, vexec_seq, vexec_cond, vexec_block, vexec_loop, blockO_exit, blockO_normal, blockO_ret, vfin_some, vend_normal, vend_ret, vbody_eq, outO_normal, outO_exit, outO_ret, vround_eq, vkeep_false, bkeep_cons, bkeep_nil, bput_some, bput_none, look_cons, look_nil, AOp.sub, POp.sub, LOp.sub, KOp.sub, NOp.sub, AX.sub, AX.subO, AX.ev, vP, vL, vK, vN, vElems, vElemSize, aP, aL, aK, aN, cB_add, cB_sub, cB_mul, cB_eql, cB_neq, cB_lss, cB_leq, cB_gtr, cB_geq, cB_xor, cB_and, cB_or, cS_eql, cS_neq, cS_lss, cS_leq, cS_gtr, cS_geq, aLoad, aBytesStr, aElems, aElemSize, Mk.val, next_push, next_put, get_push, get_put, Heap.read, List.replicate, List.replicate_succ, start, vRes, vResL, vResults, List.headD, cut_zero, vexit, fz, fzL, fzTidy, reach, grow, idsOfL, idsOf, cellsOf, cut_put_lt, cut_push, put_put, okStore, aStore, ptrOk, AV.cells?, AV.isCell, Heap.write, aFill, aPart, aEqKs, aEqK, aUn, next_empty, loadOk, ofList, isList, bornL, bornX, bornOf, bornPut, bornP, known, knownL, AV.same, List.all_cons, List.all_nil, List.drop_zero, List.isEmpty_cons, List.isEmpty_nil, three, hi, hel, hw, hw2, show ∀ w r p n s t, rawc ⟨w, r, p, n, s, t⟩ = [.int .i64 w, .int .i64 r, .int .i64 p, .int .i64 n, .int .i64 s, .int .i64 t] from fun _ _ _ _ _ _ => rfl, p1, s1, e1, h1, ok_push, ok_put, ok_empty, lkc_len, lkc_take, lkc_same, cut_zero, vkeep_true, gc, gcIds, reach, grow, idsOfL, idsOf, ddup, gcPush, gcTidy, zipKeep, renL, ren, renId, ixOf, cellsOf, cut_push, cut_put_lt, cut_put_ge, next_cut, get_cut, put_put, idsOfL_bytes, idsOfL_strs, idsOfL_ints, idsOfL_append, renL_bytes, renL_strs, renL_ints, renL_append, fzL_bytes, fzL_strs, fzL_ints, lkc_ids, lkc_ren, rawc_ids, rawc_ren]

theorem loop (a : RawL) (u : Int) (hu : 0 ≤ u) (hu2 : u < 100) (ro : Int) (hro : ro = 1 ∨ ro = 2) (late : Int) (L : List RawL) (hL : ∀ x ∈ L, x.ok) (hlen : L.length ≤ 1048576) :
    vrun (vexec (vcall 33 vtab KK 29) KK { mark := 0, tidy := [] } 97 VB10_0) true { mark := 0, tidy := [] } [2, 3, 7, 8, 9, 10, 32, 33, 34] [2, 3, 6, 7, 8, 9] KK
      ([(2, .int .i64 late), (3, .ptr (some (0, 0))), (7, .ptr (some (1, 0))), (8, .int .i64 u), (9, .int .i64 ro), (10, .ptr (some (2, 0))), (32, .list 6 L.length (L.flatMap rawc) false), (33, .int .i64 L.length), (34, .int .i64 0)], three a ⟨ro, a.peer, a.nonce, a.shard, u⟩) =
    some (.exit 0, [(2, .int .i64 late), (3, .ptr (some (0, 0))), (6, .undef), (7, .ptr (some (1, 0))), (8, .int .i64 u), (9, .int .i64 ro)], two a ⟨ro, a.peer, a.nonce, a.shard, u⟩) :=
  vrun_list (L := L) (σ := Unit) (st := fun _ i => ([(2, .int .i64 late), (3, .ptr (some (0, 0))), (7, .ptr (some (1, 0))), (8, .int .i64 u), (9, .int .i64 ro), (10, .ptr (some (2, 0))), (32, .list 6 L.length (L.flatMap rawc) false), (33, .int .i64 L.length), (34, .int .i64 i)], three a ⟨ro, a.peer, a.nonce, a.shard, u⟩))
    (step := fun _ _ => ()) (fin := fun _ => (.exit 0, [(2, .int .i64 late), (3, .ptr (some (0, 0))), (6, .undef), (7, .ptr (some (1, 0))), (8, .int .i64 u), (9, .int .i64 ro)], two a ⟨ro, a.peer, a.nonce, a.shard, u⟩)) (fun _ _ => True)
    (fun l i hi _ => ⟨trivial, round a u hu hu2 ro hro late L hL hlen i hi⟩)
    (fun l _ => by
      simp (maxDischargeDepth := 20) [VB10_0, vst_some, vgd_true, vgd_false, vgo_nil, vgo_cons, vgo_guard, bwanted_some, vop_p, vop_l, vop_k, vop_n, vnorm_some, vseqc_normal, vseqc_exit, vseqc_ret, vcondc_true, vcondc_false, vexec_dreg, vdgo_nil, vdgo_p, vdgo_l, vdgo_k, vdgo_n, vdgo_gp, vdgo_gl, vdgo_gn, vdp_some, vdl_some, vdk_some, vdn_some, vdw_true, vdw_false, room_zero, room_put, get_room, next_room, get_hide, hide_zero, vexec_skip, vexec_exit, vexec_ret, vexec_reg, vexec_seq, vexec_cond, vexec_block, vexec_loop, blockO_exit, blockO_normal, blockO_ret, vfin_some, vend_normal, vend_ret, vbody_eq, outO_normal, outO_exit, outO_ret, vround_eq, vkeep_false, bkeep_cons, bkeep_nil, bput_some, bput_none, look_cons, look_nil, AOp.sub, POp.sub, LOp.sub, KOp.sub, NOp.sub, AX.sub, AX.subO, AX.ev, vP, vL, vK, vN, vElems, vElemSize, aP, aL, aK, aN, cB_add, cB_sub, cB_mul, cB_eql, cB_neq, cB_lss, cB_leq, cB_gtr, cB_geq, cB_xor, cB_and, cB_or, cS_eql, cS_neq, cS_lss, cS_leq, cS_gtr, cS_geq, aLoad, aBytesStr, aElems, aElemSize, Mk.val, next_push, next_put, get_push, get_put, Heap.read, List.replicate, List.replicate_succ, start, vRes, vResL, vResults, List.headD, three, two, cut_zero, vkeep_true, gc, gcIds, reach, grow, idsOfL, idsOf, ddup, gcPush, gcTidy, zipKeep, renL, ren, renId, ixOf, cellsOf, cut_push, cut_put_lt, cut_put_ge, next_cut, get_cut, put_put, idsOfL_bytes, idsOfL_strs, idsOfL_ints, idsOfL_append, renL_bytes, renL_strs, renL_ints, renL_append, fzL_bytes, fzL_strs, fzL_ints, cut_zero, vexit, fz, fzL, fzTidy, reach, grow, idsOfL, idsOf, cellsOf, cut_put_lt, cut_push, put_put, okStore, aStore, ptrOk, AV.cells?, AV.isCell, Heap.write, aFill, aPart, aEqKs, aEqK, aUn, next_empty, lkc_ids, lkc_ren, rawc_ids, rawc_ren]) L 0 KK () rfl (Nat.zero_le _) trivial (by have : KK = 2000000000000 := rfl; omega)

set_option maxRecDepth 20000 in
set_option maxHeartbeats 8000000 in
theorem pure : VLaw (fun xs => vcall 33 vtab KK 30 fr0 10 xs Heap.empty) [.agg [.int .i64, .int .i64, .int .i64, .int .i64, .int .i64, .int .i64], .list (.agg [.int .i64, .int .i64, .int .i64, .int .i64, .int .i64, .int .i64]), .int .i64] 1048576 := by
  intro ds hare hb
  obtain ⟨d1, r1, rfl, i1, hare⟩ := are_cons hare
  obtain ⟨d2, r2, rfl, i2, hare⟩ := are_cons hare
  obtain ⟨d3, r3, rfl, i3, hare⟩ := are_cons hare
  obtain rfl := are_nil hare
  obtain ⟨a, rfl, ha⟩ := is_rawL i1
  obtain ⟨l, rfl, hl⟩ := i2
  obtain ⟨L, rfl, hL⟩ := is_map (f := rawd) (P := RawL.ok) (fun d hd => is_rawL hd) hl
  obtain ⟨late, rfl, hn1, hn2⟩ := i3
  simp only [D.bulks, D.bulk] at hb
  have hlen := bulk_map (f := rawd) (n := 1048576) (fun x => by simp [rawd, D.bulk, D.bulks]) (L := L) (by omega)
  have hk : isKn 33 = true := rfl
  obtain ⟨aw, ar, ap, an, as_, at_⟩ := a
  obtain ⟨a1, a2, a3, a4, a5, a6⟩ := ha
  simp only [i64] at a1 a2 a3 a4 a5 a6
  have hn1' : -9223372036854775808 ≤ late := hn1
  have hn2' : late ≤ 9223372036854775807 := hn2
  have m1 := Int.emod_nonneg at_ (show (100 : Int) ≠ 0 by omega)
  have m2 := Int.emod_lt_of_pos at_ (show (0 : Int) < 100 by omega)
  have m3 := Int.emod_nonneg ar (show (2 : Int) ≠ 0 by omega)
  have m4 := Int.emod_lt_of_pos ar (show (0 : Int) < 2 by omega)
  have m5 := Int.emod_nonneg late (show (50 : Int) ≠ 0 by omega)
  have m6 := Int.emod_lt_of_pos late (show (0 : Int) < 50 by omega)
  have p1 := fun H hH => pick_spec (K := KK) (d := 28) hk { mark := 0, tidy := [] } H hH at_ 100 (by omega) a6 (by omega)
  have p2 := fun H hH => pick_spec (K := KK) (d := 28) hk { mark := 0, tidy := [] } H hH ar 2 (by omega) a2 (by omega)
  have p3 := fun H hH => pick_spec (K := KK) (d := 28) hk { mark := 0, tidy := [] } H hH late 50 (by omega) ⟨hn1', hn2'⟩ (by omega)
  generalize hu : at_ % 100 = u at *
  have hw1 : IntKind.i64.wrap (1 + ar % 2) = 1 + ar % 2 := by rw [wrap_i64] <;> omega
  generalize hr : 1 + ar % 2 = ro at *
  have hro : ro = 1 ∨ ro = 2 := by omega
  have hw2 : IntKind.i64.wrap (u + 1) = u + 1 := by rw [wrap_i64] <;> omega
  have hw3 : IntKind.i64.wrap (u + 1 + late % 50) = u + 1 + late % 50 := by rw [wrap_i64] <;> omega
  have lp := loop ⟨aw, ar, ap, an, as_, at_⟩ u m1 m2 ro hro late L hL hlen
  have h1 := fun H hH hb => hold_spec (K := KK) (d := 28) hk { mark := 0, tidy := [] } H hH 1 .zero false hb (.inl (Nat.zero_le _)) ro ap an as_ u
  have s1 := fun H hH hb => is_spec (K := KK) (d := 28) hk { mark := 0, tidy := [] } H hH 1 ⟨ro, ap, an, as_, u⟩ false hb (.inl (Nat.zero_le _)) ro ap an
  have e1 := fun H hH hb => expire_spec (K := KK) (d := 27) hk { mark := 0, tidy := [] } H hH 1 ⟨ro, ap, an, as_, u⟩ false hb (.inl (Nat.zero_le _)) (u + 1 + late % 50)
  have s2 := fun H hH hb => is_spec (K := KK) (d := 28) hk { mark := 0, tidy := [] } H hH 1 .zero false hb (.inl (Nat.zero_le _)) ro ap an
  have h2 := fun H hH hb => hold_spec (K := KK) (d := 28) hk { mark := 0, tidy := [] } H hH 1 .zero false hb (.inl (Nat.zero_le _)) 1 2 3 4 5
  have kn := fun H => vcall_kn (kn := 33) (K := KK) (d := 28) (fr := { mark := 0, tidy := [] }) (H := H)
  have g1 : Lk.free .zero ro = true := by simp [Lk.free, Lk.zero]; omega
  have g2 : Lk.is ⟨ro, ap, an, as_, u⟩ ro ap an = true := by simp [Lk.is]; omega
  have g3 : Lk.over ⟨ro, ap, an, as_, u⟩ (u + 1 + late % 50) = true := by simp [Lk.over]; omega
  have g4 : Lk.is .zero ro ap an = false := by simp [Lk.is, Lk.zero]
  have g5 : Lk.free .zero 1 = true := by simp [Lk.free, Lk.zero]
  simp only [Nat.reduceAdd, Lk.hold, Lk.expire, g1, g2, g3, g4, g5, if_true] at p1 p2 p3 h1 s1 e1 s2 h2 kn
  simp only [two, three, rawc, lkc, Lk.zero] at lp h1 s1 e1 s2 h2
  refine ⟨Heap.empty, ?_⟩
  simp only [encArgs, encArg, encS, encSs, encL_rawL, rawd, List.headD, List.length_map, shSize, shSizes, Nat.reduceAdd]
  rw [vcall_bare hk rfl rfl rfl]
  simp (maxDischargeDepth := 20) [VF10, vst_some, vgd_true, vgd_false, vgo_nil, vgo_cons, vgo_guard, bwanted_some, vop_p, vop_l, vop_k, vop_n, vnorm_some, vseqc_normal, vseqc_exit, vseqc_ret, vcondc_true, vcondc_false, vexec_dreg, vdgo_nil, vdgo_p, vdgo_l, vdgo_k, vdgo_n, vdgo_gp, vdgo_gl, vdgo_gn, vdp_some, vdl_some, vdk_some, vdn_some, vdw_true, vdw_false, room_zero, room_put, get_room, next_room, get_hide, hide_zero, vexec_skip, vexec_exit, vexec_ret, vexec_reg, vexec_seq, vexec_cond, vexec_block, vexec_loop, blockO_exit, blockO_normal, blockO_ret, vfin_some, vend_normal, vend_ret, vbody_eq, outO_normal, outO_exit, outO_ret, vround_eq, vkeep_false, bkeep_cons, bkeep_nil, bput_some, bput_none, look_cons, look_nil, AOp.sub, POp.sub, LOp.sub, KOp.sub, NOp.sub, AX.sub, AX.subO, AX.ev, vP, vL, vK, vN, vElems, vElemSize, aP, aL, aK, aN, cB_add, cB_sub, cB_mul, cB_eql, cB_neq, cB_lss, cB_leq, cB_gtr, cB_geq, cB_xor, cB_and, cB_or, cS_eql, cS_neq, cS_lss, cS_leq, cS_gtr, cS_geq, aLoad, aBytesStr, aElems, aElemSize, Mk.val, next_push, next_put, get_push, get_put, Heap.read, List.replicate, List.replicate_succ, start, vRes, vResL, vResults, List.headD, cut_zero, vexit, fz, fzL, fzTidy, reach, grow, idsOfL, idsOf, cellsOf, cut_put_lt, cut_push, put_put, okStore, aStore, ptrOk, AV.cells?, AV.isCell, Heap.write, aFill, aPart, aEqKs, aEqK, aUn, next_empty, loadOk, ofList, isList, bornL, bornX, bornOf, bornPut, bornP, known, knownL, AV.same, List.all_cons, List.all_nil, List.drop_zero, List.isEmpty_cons, List.isEmpty_nil, cut_zero, vkeep_true, gc, gcIds, reach, grow, idsOfL, idsOf, ddup, gcPush, gcTidy, zipKeep, renL, ren, renId, ixOf, cellsOf, cut_push, cut_put_lt, cut_put_ge, next_cut, get_cut, put_put, idsOfL_bytes, idsOfL_strs, idsOfL_ints, idsOfL_append, renL_bytes, renL_strs, renL_ints, renL_append, fzL_bytes, fzL_strs, fzL_ints, p1, p2, p3, hw1, hw2, hw3, lp, h1, s1, e1, s2, h2, kn, ok_push, ok_put, ok_empty, hr]

end Go.Proofs.Yteibgagdnidojaa.lockLasts
