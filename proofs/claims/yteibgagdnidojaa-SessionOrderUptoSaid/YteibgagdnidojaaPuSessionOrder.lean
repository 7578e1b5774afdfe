/- SessionOrder in V. -/
import Derived.Test.YteibgagdnidojaaQRw
set_option linter.all false
set_option linter.unusedSimpArgs false
namespace Go.Proofs.Yteibgagdnidojaa
namespace sessionOrder

def ordF (x : Rw) : Sx := ⟨(sessF x).c, (sessF x).q, 0, valF (sessF x).q⟩
abbrev lrw (L : List Rw) : AV := .list 4 L.length (rwt L) false

theorem o_round {kn K d : Nat} (hk : isKn kn = true) (H : Heap) (hH : H.Ok) (L : List Rw) (hL : ∀ x ∈ L, x.ok) (hl : L.length ≤ 1048576) (turn : Int) (i : Nat) (hi : i < L.length) (p : List Sx) (hp : p.length = i) :
    VR12_0 (vcall kn vtab K (d + 3)) K (fr1 H) ([(1, .int .i64 turn), (5, accS H p), (13, lrw L), (14, .int .i64 L.length), (15, .int .i64 i)], blkS H p) =
      some (.inl ([(1, .int .i64 turn), (5, accS H (p ++ [ordF L[i]])), (13, lrw L), (14, .int .i64 L.length), (15, .int .i64 (i + 1 : Nat))], blkS H (p ++ [ordF L[i]]))) := by
  have hd := rwt_drop L i hi
  have hx : L[i].ok := hL _ (List.getElem_mem hi)
  generalize L[i] = x at *
  generalize rwt (L.drop (i + 1)) = R at hd
  have c1 := fun fr H args => call_of (K := K) (d := d + 2) (fr := fr) (args := args) (H := H) hk (f := 38) rfl rfl
  have c2 := fun fr H args => call_of (K := K) (d := d + 2) (fr := fr) (args := args) (H := H) hk (f := 42) rfl rfl
  have h1 := fun fr H hH => sess_spec (K := K) (d := d) hk fr H hH x hx
  have h2 := fun fr H hH => value_spec (K := K) (d := d + 1) hk fr H hH (sessF x).q (sessF_rng hx)
  have hta := tbl_app p (ordF x)
  have hq : (ordF x).c = (sessF x).c ∧ (ordF x).q = (sessF x).q ∧ (ordF x).w = 0 ∧ (ordF x).v = valF (sessF x).q := ⟨rfl, rfl, rfl, rfl⟩
  generalize ordF x = o at *
  generalize sessF x = s at *
  generalize valF s.q = V at *
  obtain ⟨sc, sq, sw, sv⟩ := s
  obtain ⟨oc, oq, ow, ov⟩ := o
  obtain ⟨rfl, rfl, rfl, rfl⟩ := hq
  obtain ⟨xc, xq, xw, xv⟩ := x
  have hwr : IntKind.i64.wrap ((i : Int) + 1) = (i : Int) + 1 := by rw [wrap_i64] <;> omega
  have f1 := idsOfL_rwt L
  have f2 := fun m p => renL_rwt m p L
  have f3 := fun H n e => frzL_rwt H n e L
  have g1 := idsOfL_tbl p
  have g2 := fun m q => renL_tbl m q p
  have g3 := fun H n e => frzL_tbl H n e p
  have hpl := tbl_len p
  have w3 : p.length + 1 ≤ 70368744177664 ∧ (p.length + 1) * 40 ≤ 70368744177664 := by omega
  simp only [sxC, rwC, List.cons_append, List.nil_append] at hd h1 h2 hta
  simp (maxDischargeDepth := 20) [VB12_0, vst_some, vgd_true, vgd_false, vgo_nil, vgo_cons, vgo_guard, bwanted_some, vop_p, vop_l, vop_k, vop_n, vnorm_some, vseqc_normal, vseqc_exit, vseqc_ret, vcondc_true, vcondc_false, vexec_dreg, vdgo_nil, vdgo_p, vdgo_l, vdgo_k, vdgo_n, vdgo_gp, vdgo_gl, vdgo_gk, vdgo_gn, vdp_some, vdl_some, vdk_some, vdn_some, vdw_true, vdw_false, room_zero, room_put, get_room, next_room, get_hide, hide_zero, vexec_skip, vexec_exit, vexec_ret, vexec_reg, vexec_seq, vexec_cond, vexec_block, vexec_loop, blockO_exit, blockO_normal, blockO_ret, vfin_some, vend_normal, vend_ret, vbody_eq, outO_normal, outO_exit, outO_ret, vround_eq, vkeep_false, bkeep_cons, bkeep_nil, bput_some, bput_none, look_cons, look_nil, AOp.sub, POp.sub, LOp.sub, KOp.sub, NOp.sub, AX.sub, AX.subO, AX.ev, vP, vL, vK, vN, vElems, vElemSize, aP, aL, aK, aN, cB_add, cB_sub, cB_mul, cB_eql, cB_neq, cB_lss, cB_leq, cB_gtr, cB_geq, cB_xor, cB_and, cB_or, cS_eql, cS_neq, cS_lss, cS_leq, cS_gtr, cS_geq, aLoad, aBytesStr, aElems, aElemSize, Mk.val, next_push, next_put, get_push, get_put, Heap.read, List.replicate, List.replicate_succ, start, vRes, vResL, vResults, List.headD, vfrz_some, vexit_eq, vexit1_frozen, vexit1_gc, vexit2_some, solV, solL, solz_succ, solz_zero, solF_some, sol1, List.tail_cons, List.tail_nil, frzL_nil, frzL_cons', frzM_some, frz_int, frz_bool, frz_str, frz_nilFunc, frz_undef, frz_list, frz_elem, frz_nilptr, frz_nilmap, frz_fn, frz_ptr, frz_nilslice, frz_func, frz_agg, frz_tuple, frz_slice, frz_acc, frzS_eq, frzTidy_nil, ice_nil, next_ice, get_ice, iceB_some, vAppend, fitsB, aFill, aPart, aUn, AV.cells?, AV.isCell, reps, byteC_def, accB, blkB, fr1, List.drop_succ_cons, List.drop_zero, List.drop_nil, vkeep_true, gc, gcIds, reach, grow, idsOfL, idsOf, ddup, gcPush, gcTidy, zipKeep, renL, ren, renId, ixOf, cellsOf, cut_zero, cut_p1, cut_p2, cut_p3, cut_p4, cut_app, cut_app0, cut_app1, cut_push, cut_put_lt, cut_put_ge, cut_ice, new_lt, new_lt2, new_lt3, new_lt4, new_le2, new_le3, new_le4, eqn_a, eqn_b, eqn_c, eqn_d, eqn_e, eqn_f, next_cut, get_cut, put_put, idsOfL_append, renL_append, idsOfL_bytes, idsOfL_strs, idsOfL_ints, renL_bytes, renL_strs, renL_ints, frzL_bytes, frzL_strs, frzL_ints, frzL_drop, frzL_take, idsOfL_drop, idsOfL_take, renL_drop, renL_take, toBytes_map, toBytes_drop, toBytes_take, toBytes_td, idsOf_byteC, ren_byteC, frz_byteC, next_empty, frzTidy, okStore, aStore, ptrOk, Heap.write, aEqKs, aEqK, aEqP, accS, blkS, c1, c2, h1, h2, hd, hi, hwr, f1, f2, f3, g1, g2, g3, hpl, w3, hta, ok_push, ok_put, hH, cut_self _ hH, ice_new hH]

theorem o_end (C : VCalls) (K : Nat) (H : Heap) (hH : H.Ok) (L : List Rw) (turn : Int) (p : List Sx) :
    VR12_0 C K (fr1 H) ([(1, .int .i64 turn), (5, accS H p), (13, lrw L), (14, .int .i64 L.length), (15, .int .i64 L.length)], blkS H p) = some (.inr (.exit 0, [(1, .int .i64 turn), (5, accS H p)], blkS H p)) := by
  have f1 := idsOfL_rwt L
  have f2 := fun m p => renL_rwt m p L
  have f3 := fun H n e => frzL_rwt H n e L
  have g1 := idsOfL_tbl p
  have g2 := fun m q => renL_tbl m q p
  have g3 := fun H n e => frzL_tbl H n e p
  simp (maxDischargeDepth := 20) [VB12_0, vst_some, vgd_true, vgd_false, vgo_nil, vgo_cons, vgo_guard, bwanted_some, vop_p, vop_l, vop_k, vop_n, vnorm_some, vseqc_normal, vseqc_exit, vseqc_ret, vcondc_true, vcondc_false, vexec_dreg, vdgo_nil, vdgo_p, vdgo_l, vdgo_k, vdgo_n, vdgo_gp, vdgo_gl, vdgo_gk, vdgo_gn, vdp_some, vdl_some, vdk_some, vdn_some, vdw_true, vdw_false, room_zero, room_put, get_room, next_room, get_hide, hide_zero, vexec_skip, vexec_exit, vexec_ret, vexec_reg, vexec_seq, vexec_cond, vexec_block, vexec_loop, blockO_exit, blockO_normal, blockO_ret, vfin_some, vend_normal, vend_ret, vbody_eq, outO_normal, outO_exit, outO_ret, vround_eq, vkeep_false, bkeep_cons, bkeep_nil, bput_some, bput_none, look_cons, look_nil, AOp.sub, POp.sub, LOp.sub, KOp.sub, NOp.sub, AX.sub, AX.subO, AX.ev, vP, vL, vK, vN, vElems, vElemSize, aP, aL, aK, aN, cB_add, cB_sub, cB_mul, cB_eql, cB_neq, cB_lss, cB_leq, cB_gtr, cB_geq, cB_xor, cB_and, cB_or, cS_eql, cS_neq, cS_lss, cS_leq, cS_gtr, cS_geq, aLoad, aBytesStr, aElems, aElemSize, Mk.val, next_push, next_put, get_push, get_put, Heap.read, List.replicate, List.replicate_succ, start, vRes, vResL, vResults, List.headD, vfrz_some, vexit_eq, vexit1_frozen, vexit1_gc, vexit2_some, solV, solL, solz_succ, solz_zero, solF_some, sol1, List.tail_cons, List.tail_nil, frzL_nil, frzL_cons', frzM_some, frz_int, frz_bool, frz_str, frz_nilFunc, frz_undef, frz_list, frz_elem, frz_nilptr, frz_nilmap, frz_fn, frz_ptr, frz_nilslice, frz_func, frz_agg, frz_tuple, frz_slice, frz_acc, frzS_eq, frzTidy_nil, ice_nil, next_ice, get_ice, iceB_some, vAppend, fitsB, aFill, aPart, aUn, AV.cells?, AV.isCell, reps, byteC_def, accB, blkB, fr1, List.drop_succ_cons, List.drop_zero, List.drop_nil, vkeep_true, gc, gcIds, reach, grow, idsOfL, idsOf, ddup, gcPush, gcTidy, zipKeep, renL, ren, renId, ixOf, cellsOf, cut_zero, cut_p1, cut_p2, cut_p3, cut_p4, cut_app, cut_app0, cut_app1, cut_push, cut_put_lt, cut_put_ge, cut_ice, new_lt, new_lt2, new_lt3, new_lt4, new_le2, new_le3, new_le4, eqn_a, eqn_b, eqn_c, eqn_d, eqn_e, eqn_f, next_cut, get_cut, put_put, idsOfL_append, renL_append, idsOfL_bytes, idsOfL_strs, idsOfL_ints, renL_bytes, renL_strs, renL_ints, frzL_bytes, frzL_strs, frzL_ints, frzL_drop, frzL_take, idsOfL_drop, idsOfL_take, renL_drop, renL_take, toBytes_map, toBytes_drop, toBytes_take, toBytes_td, idsOf_byteC, ren_byteC, frz_byteC, next_empty, frzTidy, okStore, aStore, ptrOk, Heap.write, aEqKs, aEqK, aEqP, accS, blkS, f1, f2, f3, g1, g2, g3, ok_push, hH, cut_self _ hH, ice_new hH]

theorem o_loop {kn K d : Nat} (hk : isKn kn = true) (hK : 1099511627776 < K) (H : Heap) (hH : H.Ok) (L : List Rw) (hL : ∀ x ∈ L, x.ok) (hl : L.length ≤ 1048576) (turn : Int) :
    VU12_0 (vcall kn vtab K (d + 3)) K (fr1 H) K ([(1, .int .i64 turn), (5, accS H []), (13, lrw L), (14, .int .i64 L.length), (15, .int .i64 0)], blkS H []) = some (.exit 0, [(1, .int .i64 turn), (5, accS H (L.map ordF))], blkS H (L.map ordF)) := by
  have e : ∀ (r : List Rw) (p : List Sx), r.foldl (fun p x => p ++ [ordF x]) p = p ++ r.map ordF := by
    intro r
    induction r with
    | nil => intro p; simp
    | cons x r ih => intro p; simp [ih]
  have := vrun_list (body := vexec (vcall kn vtab K (d + 3)) K (fr1 H) _ VB12_0) (L := L) (st := fun p i => ([(1, .int .i64 turn), (5, accS H p), (13, lrw L), (14, .int .i64 L.length), (15, .int .i64 i)], blkS H p)) (step := fun p x => p ++ [ordF x]) (fin := fun p => (.exit 0, [(1, .int .i64 turn), (5, accS H p)], blkS H p))
    (fun p i => p.length = i)
    (fun p i hi hp => ⟨by simp [hp], o_round (K := K) (d := d) hk H hH L hL hl turn i hi p hp⟩)
    (fun p _ => o_end _ K H hH L turn p) L 0 K [] rfl (Nat.zero_le _) rfl (by omega)
  rw [e] at this
  exact this

theorem tbl_dropl : ∀ (l : List Sx) (k : Nat), (tbl l).drop (k * 4) = tbl (l.drop k)
  | [], k => by simp [tbl]
  | x :: l, 0 => by simp
  | x :: l, k + 1 => by
    have := tbl_dropl l k
    rw [show (k + 1) * 4 = k * 4 + 4 by omega]
    simp only [tbl, List.flatMap_cons, sxC, List.cons_append, List.nil_append, List.drop_succ_cons] at this ⊢
    exact this
theorem tbl_takel : ∀ (l : List Sx) (k : Nat), (tbl l).take (k * 4) = tbl (l.take k)
  | [], k => by simp [tbl]
  | x :: l, 0 => by simp [tbl]
  | x :: l, k + 1 => by
    have := tbl_takel l k
    rw [show (k + 1) * 4 = k * 4 + 4 by omega]
    simp only [tbl, List.flatMap_cons, sxC, List.cons_append, List.nil_append, List.take_succ_cons] at this ⊢
    rw [this]
theorem tbl_append (a b : List Sx) : tbl (a ++ b) = tbl a ++ tbl b := by simp [tbl]

theorem ok_none {H : Heap} (h : H.Ok) (b : Nat) : (H.put b none).Ok := by
  intro i hi
  have := h i hi
  simp only [Heap.put]
  split
  · rfl
  · exact this

theorem ord_same (P : List Rw) : ∀ x ∈ P.map ordF, ∀ y ∈ P.map ordF, x.c = y.c → x.q = y.q → x = y := by
  intro x hx y hy hc hq
  obtain ⟨a, _, rfl⟩ := List.mem_map.1 hx
  obtain ⟨b, _, rfl⟩ := List.mem_map.1 hy
  simp only [ordF] at hc hq ⊢
  rw [hc, hq]

set_option maxRecDepth 20000 in
set_option maxHeartbeats 8000000 in
theorem pure : VLaw (fun xs => vcall 41 vtab KK 30 fr0 12 xs Heap.empty) [.list (.agg [.int .i64, .int .i64, .int .i64, .int .i64]), .int .i64] 1048576 := by
  intro ds hare hb
  obtain ⟨d1, r1, rfl, i1, hare⟩ := are_cons hare
  obtain ⟨d2, r2, rfl, i2, hare⟩ := are_cons hare
  obtain rfl := are_nil hare
  obtain ⟨l, rfl, hl⟩ := i1
  obtain ⟨turn, rfl, hturn⟩ := i2
  obtain ⟨L, rfl, hL⟩ := is_map (f := rwD) (P := Rw.ok) (fun d hd => is_rw hd) hl
  simp only [D.bulks, D.bulk] at hb
  have hlen := bulk_map (f := rwD) (n := 1048576) (fun x => by simp [rwD, D.bulk, D.bulks]) (L := L) (by omega)
  have hk : isKn 41 = true := rfl
  have hK : 1099511627776 < KK := by decide
  clear hb hl
  have c1 := fun fr H args => call_of (K := KK) (d := 28) (fr := fr) (args := args) (H := H) hk (f := 26) rfl rfl
  have c2 := fun fr H args => call_of (K := KK) (d := 28) (fr := fr) (args := args) (H := H) hk (f := 43) rfl rfl
  have c3 := fun fr H args => call_of (K := KK) (d := 28) (fr := fr) (args := args) (H := H) hk (f := 40) rfl rfl
  have c4 := fun fr H args => call_of (K := KK) (d := 28) (fr := fr) (args := args) (H := H) hk (f := 44) rfl rfl
  have kn := fun fr H => vcall_kn (kn := 41) (K := KK) (d := 28) (fr := fr) (H := H)
  have h1 := o_loop (K := KK) (d := 26) hk hK Heap.empty ok_empty L hL hlen turn
  have hsame := ord_same L
  have hPl : (L.map ordF).length = L.length := by simp
  generalize L.map ordF = P at *
  obtain ⟨k, hk1, hk2⟩ : ∃ k : Nat, turn % ((P.length : Int) + 1) = k ∧ k ≤ P.length := by
    have q1 := Int.emod_nonneg turn (show ((P.length : Int) + 1) ≠ 0 by omega)
    have q2 := Int.emod_lt_of_pos turn (show 0 < ((P.length : Int) + 1) by omega)
    exact ⟨(turn % ((P.length : Int) + 1)).toNat, by omega, by omega⟩
  have h2 := fun fr H hH => pick_spec (C := vcall 41 vtab KK 28) (K := KK) fr H hH turn (P.length + 1) (by omega) hturn (by omega)
  have h3 := fun fr H hH => of_spec (K := KK) (d := 27) hk hK fr H hH P false (by omega)
  have h4 := fun fr H hH => of_spec (K := KK) (d := 27) hk hK fr H hH (P.drop k ++ P.take k) false (by simp; omega)
  have hperm : (P.drop k ++ P.take k).Perm P := by
    have := List.perm_append_comm (l₁ := P.drop k) (l₂ := P.take k)
    rwa [List.take_append_drop] at this
  have hB : ofT (P.drop k ++ P.take k) = ofT P := (ofT_perm hperm.symm hsame).symm
  rw [hB] at h4
  have hA := tok_of P
  have hD := ofT_all hA
  have hAl := hA.1
  generalize ofT P = A at *
  have h5 := fun fr H hH b hb hw => all_spec (K := KK) (d := 27) hk (by omega) fr H hH b A hAl false hb hw
  have hSl : (allT A).length ≤ 4 := by
    have := List.length_filter_le (fun x : Sx => decide (0 < x.q)) A
    unfold allT; omega
  generalize allT A = S at *
  have h6 := fun fr H hH => of_spec (K := KK) (d := 27) hk hK fr H hH S false (by omega)
  rw [hD] at h6
  have h7 := fun fr H hH => same_spec (C := vcall 41 vtab KK 28) (K := KK) hK fr H hH S S false false (by omega)
  have s1 := idsOfL_tbl S
  have s2 := fun m q => renL_tbl m q S
  have s3 := fun H n e => frzL_tbl H n e S
  have p1 := idsOfL_tbl P
  have p2 := fun m q => renL_tbl m q P
  have p3 := fun H n e => frzL_tbl H n e P
  have r1 := idsOfL_rwt L
  have r2 := fun m q => renL_rwt m q L
  have r3 := fun H n e => frzL_rwt H n e L
  have w2 : IntKind.i64.wrap ((P.length : Int) + 1) = (P.length : Int) + 1 := by rw [wrap_i64] <;> omega
  have hPt := tbl_len P
  have ge : ∀ i, Heap.empty.get i = none := fun _ => rfl
  have wA : P.length * 40 ≤ 70368744177664 ∧ P.length ≤ 70368744177664 := by omega
  have ht : List.take (P.length * 4) (tbl P) = tbl P := List.take_of_length_le (by omega)
  have hnil : tbl ([] : List Sx) = [] := rfl
  clear hsame hperm hB hA hD
  match A, hAl with
  | [⟨c0, q0, w0, v0⟩, ⟨c1', q1, w1, v1⟩, ⟨c2', q2, w2', v2⟩, ⟨c3', q3, w3, v3⟩], _ =>
    have hT : tbl [⟨c0, q0, w0, v0⟩, ⟨c1', q1, w1, v1⟩, ⟨c2', q2, w2', v2⟩, ⟨c3', q3, w3, v3⟩] = [.int .i64 c0, .int .i64 q0, .int .i64 w0, .str v0, .int .i64 c1', .int .i64 q1, .int .i64 w1, .str v1, .int .i64 c2', .int .i64 q2, .int .i64 w2', .str v2, .int .i64 c3', .int .i64 q3, .int .i64 w3, .str v3] := rfl
    simp only [hT] at h3 h4 h5 h6
    simp only [accS, blkS, fr1, hnil, List.length_nil, Nat.reduceAdd, List.length_append, List.length_drop, List.length_take, tbl_append, decide_true] at h1 h2 h3 h4 h5 h6 h7 kn c1 c2 c3 c4
    rw [show Heap.empty.next = 0 from rfl] at h1
    refine ⟨Heap.empty, ?_⟩
    simp only [List.map_cons, List.map_nil, encArgs, encArg, encS, encL_rw, List.headD, shSize, shSizes, List.length_map, Nat.reduceAdd]
    rw [call_of hk (f := 12) rfl rfl]
    simp (maxDischargeDepth := 20) [vst_some, vgd_true, vgd_false, vgo_nil, vgo_cons, vgo_guard, bwanted_some, vop_p, vop_l, vop_k, vop_n, vnorm_some, vseqc_normal, vseqc_exit, vseqc_ret, vcondc_true, vcondc_false, vexec_dreg, vdgo_nil, vdgo_p, vdgo_l, vdgo_k, vdgo_n, vdgo_gp, vdgo_gl, vdgo_gk, vdgo_gn, vdp_some, vdl_some, vdk_some, vdn_some, vdw_true, vdw_false, room_zero, room_put, get_room, next_room, get_hide, hide_zero, vexec_skip, vexec_exit, vexec_ret, vexec_reg, vexec_seq, vexec_cond, vexec_block, vexec_loop, blockO_exit, blockO_normal, blockO_ret, vfin_some, vend_normal, vend_ret, vbody_eq, outO_normal, outO_exit, outO_ret, vround_eq, vkeep_false, bkeep_cons, bkeep_nil, bput_some, bput_none, look_cons, look_nil, AOp.sub, POp.sub, LOp.sub, KOp.sub, NOp.sub, AX.sub, AX.subO, AX.ev, vP, vL, vK, vN, vElems, vElemSize, aP, aL, aK, aN, cB_add, cB_sub, cB_mul, cB_eql, cB_neq, cB_lss, cB_leq, cB_gtr, cB_geq, cB_xor, cB_and, cB_or, cS_eql, cS_neq, cS_lss, cS_leq, cS_gtr, cS_geq, aLoad, aBytesStr, aElems, aElemSize, Mk.val, next_push, next_put, get_push, get_put, Heap.read, List.replicate, List.replicate_succ, start, vRes, vResL, vResults, List.headD, vfrz_some, vexit_eq, vexit1_frozen, vexit1_gc, vexit2_some, solV, solL, solz_succ, solz_zero, solF_some, sol1, List.tail_cons, List.tail_nil, frzL_nil, frzL_cons', frzM_some, frz_int, frz_bool, frz_str, frz_nilFunc, frz_undef, frz_list, frz_elem, frz_nilptr, frz_nilmap, frz_fn, frz_ptr, frz_nilslice, frz_func, frz_agg, frz_tuple, frz_slice, frz_acc, frzS_eq, frzTidy_nil, ice_nil, next_ice, get_ice, iceB_some, vAppend, fitsB, aFill, aPart, aUn, AV.cells?, AV.isCell, reps, byteC_def, accB, blkB, fr1, List.drop_succ_cons, List.drop_zero, List.drop_nil, vkeep_true, gc, gcIds, reach, grow, idsOfL, idsOf, ddup, gcPush, gcTidy, zipKeep, renL, ren, renId, ixOf, cellsOf, cut_zero, cut_p1, cut_p2, cut_p3, cut_p4, cut_app, cut_app0, cut_app1, cut_push, cut_put_lt, cut_put_ge, cut_ice, new_lt, new_lt2, new_lt3, new_lt4, new_le2, new_le3, new_le4, eqn_a, eqn_b, eqn_c, eqn_d, eqn_e, eqn_f, next_cut, get_cut, put_put, idsOfL_append, renL_append, idsOfL_bytes, idsOfL_strs, idsOfL_ints, renL_bytes, renL_strs, renL_ints, frzL_bytes, frzL_strs, frzL_ints, frzL_drop, frzL_take, idsOfL_drop, idsOfL_take, renL_drop, renL_take, toBytes_map, toBytes_drop, toBytes_take, toBytes_td, idsOf_byteC, ren_byteC, frz_byteC, next_empty, r1, r2, r3]
    rw [body_bare rfl rfl]
    by_cases hk0 : k = 0
    · subst hk0
      simp only [List.drop_zero, List.take_zero, hnil, List.append_nil, Nat.sub_zero, Nat.zero_min, Nat.add_zero] at h4
      simp (maxDischargeDepth := 20) [VF12, vst_some, vgd_true, vgd_false, vgo_nil, vgo_cons, vgo_guard, bwanted_some, vop_p, vop_l, vop_k, vop_n, vnorm_some, vseqc_normal, vseqc_exit, vseqc_ret, vcondc_true, vcondc_false, vexec_dreg, vdgo_nil, vdgo_p, vdgo_l, vdgo_k, vdgo_n, vdgo_gp, vdgo_gl, vdgo_gk, vdgo_gn, vdp_some, vdl_some, vdk_some, vdn_some, vdw_true, vdw_false, room_zero, room_put, get_room, next_room, get_hide, hide_zero, vexec_skip, vexec_exit, vexec_ret, vexec_reg, vexec_seq, vexec_cond, vexec_block, vexec_loop, blockO_exit, blockO_normal, blockO_ret, vfin_some, vend_normal, vend_ret, vbody_eq, outO_normal, outO_exit, outO_ret, vround_eq, vkeep_false, bkeep_cons, bkeep_nil, bput_some, bput_none, look_cons, look_nil, AOp.sub, POp.sub, LOp.sub, KOp.sub, NOp.sub, AX.sub, AX.subO, AX.ev, vP, vL, vK, vN, vElems, vElemSize, aP, aL, aK, aN, cB_add, cB_sub, cB_mul, cB_eql, cB_neq, cB_lss, cB_leq, cB_gtr, cB_geq, cB_xor, cB_and, cB_or, cS_eql, cS_neq, cS_lss, cS_leq, cS_gtr, cS_geq, aLoad, aBytesStr, aElems, aElemSize, Mk.val, next_push, next_put, get_push, get_put, Heap.read, List.replicate, List.replicate_succ, start, vRes, vResL, vResults, List.headD, vfrz_some, vexit_eq, vexit1_frozen, vexit1_gc, vexit2_some, solV, solL, solz_succ, solz_zero, solF_some, sol1, List.tail_cons, List.tail_nil, frzL_nil, frzL_cons', frzM_some, frz_int, frz_bool, frz_str, frz_nilFunc, frz_undef, frz_list, frz_elem, frz_nilptr, frz_nilmap, frz_fn, frz_ptr, frz_nilslice, frz_func, frz_agg, frz_tuple, frz_slice, frz_acc, frzS_eq, frzTidy_nil, ice_nil, next_ice, get_ice, iceB_some, vAppend, fitsB, aFill, aPart, aUn, AV.cells?, AV.isCell, reps, byteC_def, accB, blkB, fr1, List.drop_succ_cons, List.drop_zero, List.drop_nil, vkeep_true, gc, gcIds, reach, grow, idsOfL, idsOf, ddup, gcPush, gcTidy, zipKeep, renL, ren, renId, ixOf, cellsOf, cut_zero, cut_p1, cut_p2, cut_p3, cut_p4, cut_app, cut_app0, cut_app1, cut_push, cut_put_lt, cut_put_ge, cut_ice, new_lt, new_lt2, new_lt3, new_lt4, new_le2, new_le3, new_le4, eqn_a, eqn_b, eqn_c, eqn_d, eqn_e, eqn_f, next_cut, get_cut, put_put, idsOfL_append, renL_append, idsOfL_bytes, idsOfL_strs, idsOfL_ints, renL_bytes, renL_strs, renL_ints, frzL_bytes, frzL_strs, frzL_ints, frzL_drop, frzL_take, idsOfL_drop, idsOfL_take, renL_drop, renL_take, toBytes_map, toBytes_drop, toBytes_take, toBytes_td, idsOf_byteC, ren_byteC, frz_byteC, next_empty, loadOk, ofList, isList, bornL, bornX, bornXO, bornOf, bornPut_some, bornPut_none, bornP, known, knownL, AV.same, List.all_cons, List.all_nil, List.drop_zero, List.isEmpty_cons, List.isEmpty_nil, thawed, vSlice, vSliceA, aSlice, aBoundO, aBound, aShift, aSliceStr, frzTidy, okStore, aStore, ptrOk, Heap.write, aEqKs, aEqK, aEqP, c1, c2, c3, c4, kn, h1, h2, h3, h4, h5, h6, h7, s1, s2, s3, p1, p2, p3, r1, r2, r3, w2, hk1, hk2, hPt, ht, wA, ge, ok_none, ok_room, ok_push, ok_put, ok_ice, ok_empty]
    · have hkn : (k = 0) = False := eq_false hk0
      have td := tbl_dropl P k
      have tt := tbl_takel P k
      have wB : (P.length - k) * 40 ≤ 70368744177664 ∧ P.length - k ≤ 70368744177664 := by omega
      have wC : (P.length - k + k) * 40 ≤ 70368744177664 ∧ P.length - k + k ≤ 70368744177664 := by omega
      have hmin : min k P.length = k := by omega
      have x5 : (k * 4 + (P.length - k) * 4 ≤ P.length * 4) = True := eq_true (by omega)
      have x6 : (k * 4 ≤ P.length * 4) = True := eq_true (by omega)
      have ld := tbl_len (P.drop k)
      rw [List.length_drop] at ld
      have lt := tbl_len (P.take k)
      rw [List.length_take, hmin] at lt
      have t1 : List.take ((P.length - k) * 4) (tbl (P.drop k)) = tbl (P.drop k) := List.take_of_length_le (by omega)
      have t2 : List.take (P.length * 4) (tbl (P.drop k) ++ tbl (P.take k)) = tbl (P.drop k) ++ tbl (P.take k) := List.take_of_length_le (by rw [List.length_append]; omega)
      have x7 : (P.length * 4 ≤ (P.length - k) * 4 + k * 4) = True := eq_true (by omega)
      have q1 : idsOfL (tbl (P.drop k) ++ tbl (P.take k)) = [] := by rw [← tbl_append]; exact idsOfL_tbl _
      have q2 : ∀ m q, renL m q (tbl (P.drop k) ++ tbl (P.take k)) = tbl (P.drop k) ++ tbl (P.take k) := fun m q => by rw [← tbl_append]; exact renL_tbl m q _
      have q3 : ∀ H n e, frzL (frz H n e) (tbl (P.drop k) ++ tbl (P.take k)) = some (tbl (P.drop k) ++ tbl (P.take k), []) := fun H n e => by rw [← tbl_append]; exact frzL_tbl H n e _
      simp only [hmin, Nat.sub_add_cancel hk2] at h4
      simp (maxDischargeDepth := 20) [VF12, vst_some, vgd_true, vgd_false, vgo_nil, vgo_cons, vgo_guard, bwanted_some, vop_p, vop_l, vop_k, vop_n, vnorm_some, vseqc_normal, vseqc_exit, vseqc_ret, vcondc_true, vcondc_false, vexec_dreg, vdgo_nil, vdgo_p, vdgo_l, vdgo_k, vdgo_n, vdgo_gp, vdgo_gl, vdgo_gk, vdgo_gn, vdp_some, vdl_some, vdk_some, vdn_some, vdw_true, vdw_false, room_zero, room_put, get_room, next_room, get_hide, hide_zero, vexec_skip, vexec_exit, vexec_ret, vexec_reg, vexec_seq, vexec_cond, vexec_block, vexec_loop, blockO_exit, blockO_normal, blockO_ret, vfin_some, vend_normal, vend_ret, vbody_eq, outO_normal, outO_exit, outO_ret, vround_eq, vkeep_false, bkeep_cons, bkeep_nil, bput_some, bput_none, look_cons, look_nil, AOp.sub, POp.sub, LOp.sub, KOp.sub, NOp.sub, AX.sub, AX.subO, AX.ev, vP, vL, vK, vN, vElems, vElemSize, aP, aL, aK, aN, cB_add, cB_sub, cB_mul, cB_eql, cB_neq, cB_lss, cB_leq, cB_gtr, cB_geq, cB_xor, cB_and, cB_or, cS_eql, cS_neq, cS_lss, cS_leq, cS_gtr, cS_geq, aLoad, aBytesStr, aElems, aElemSize, Mk.val, next_push, next_put, get_push, get_put, Heap.read, List.replicate, List.replicate_succ, start, vRes, vResL, vResults, List.headD, vfrz_some, vexit_eq, vexit1_frozen, vexit1_gc, vexit2_some, solV, solL, solz_succ, solz_zero, solF_some, sol1, List.tail_cons, List.tail_nil, frzL_nil, frzL_cons', frzM_some, frz_int, frz_bool, frz_str, frz_nilFunc, frz_undef, frz_list, frz_elem, frz_nilptr, frz_nilmap, frz_fn, frz_ptr, frz_nilslice, frz_func, frz_agg, frz_tuple, frz_slice, frz_acc, frzS_eq, frzTidy_nil, ice_nil, next_ice, get_ice, iceB_some, vAppend, fitsB, aFill, aPart, aUn, AV.cells?, AV.isCell, reps, byteC_def, accB, blkB, fr1, List.drop_succ_cons, List.drop_zero, List.drop_nil, vkeep_true, gc, gcIds, reach, grow, idsOfL, idsOf, ddup, gcPush, gcTidy, zipKeep, renL, ren, renId, ixOf, cellsOf, cut_zero, cut_p1, cut_p2, cut_p3, cut_p4, cut_app, cut_app0, cut_app1, cut_push, cut_put_lt, cut_put_ge, cut_ice, new_lt, new_lt2, new_lt3, new_lt4, new_le2, new_le3, new_le4, eqn_a, eqn_b, eqn_c, eqn_d, eqn_e, eqn_f, next_cut, get_cut, put_put, idsOfL_append, renL_append, idsOfL_bytes, idsOfL_strs, idsOfL_ints, renL_bytes, renL_strs, renL_ints, frzL_bytes, frzL_strs, frzL_ints, frzL_drop, frzL_take, idsOfL_drop, idsOfL_take, renL_drop, renL_take, toBytes_map, toBytes_drop, toBytes_take, toBytes_td, idsOf_byteC, ren_byteC, frz_byteC, next_empty, loadOk, ofList, isList, bornL, bornX, bornXO, bornOf, bornPut_some, bornPut_none, bornP, known, knownL, AV.same, List.all_cons, List.all_nil, List.drop_zero, List.isEmpty_cons, List.isEmpty_nil, thawed, vSlice, vSliceA, aSlice, aBoundO, aBound, aShift, aSliceStr, frzTidy, okStore, aStore, ptrOk, Heap.write, aEqKs, aEqK, aEqP, c1, c2, c3, c4, kn, h1, h2, h3, h4, h5, h6, h7, s1, s2, s3, p1, p2, p3, r1, r2, r3, w2, hk1, hk2, hPt, ht, hkn, td, tt, wA, wB, wC, x5, x6, x7, ld, lt, t1, t2, q1, q2, q3, ge, ok_none, ok_room, ok_push, ok_put, ok_ice, ok_empty]

end sessionOrder
end Go.Proofs.Yteibgagdnidojaa
