import Derived.Test.YtgahmammhclobaaGreatXt
import Derived.Test.YtgahmammhclobaaGreatXs
import Derived.Test.YtgahmammhclobaaGreatY1
set_option linter.all false
set_option maxRecDepth 100000
namespace Go.Proofs.YtgahmammhclobaaGreat
abbrev in_oH_Image_J0 (s10:Int × oR_Shard) (l:List oH_RawOp) (bend:Int):Fast × WH:=([(2,(l_oH_RawOp l)),(3,(.int .i64 bend)),(8,(.ptr (some (0,0)))),(9,(.ptr (some (1,0)))),(10,(.int .i64 s10.1))],[(some (.cells [(.int .i64 0),(.int .i64 0),(.slice none 2 0 0 true),(.slice none 4 0 0 true)] false false)),(some (.cells (e_oR_Shard s10.2) false false))])
def fin_oH_Image_J0 (s10:Int × oR_Shard) (l:List oH_RawOp) (bend:Int):Unit ⊕ Unit→Ex × Fast × WH:=fun
 | .inl e=>(.normal,[(2,(l_oH_RawOp l)),(3,(.int .i64 bend)),(8,(.ptr (some (0,0)))),(9,(.ptr (some (1,0)))),(10,(.int .i64 s10.1))],[(some (.cells [(.int .i64 0),(.int .i64 0),(.slice none 2 0 0 true),(.slice none 4 0 0 true)] false false)),(some (.cells (e_oR_Shard s10.2) false false))])
 | .inr e=>((.exit 0),[(3,(.int .i64 bend)),(8,(.ptr (some (0,0)))),(9,(.ptr (some (1,0))))],[(some (.cells [(.int .i64 0),(.int .i64 0),(.slice none 2 0 0 true),(.slice none 4 0 0 true)] false false)),(some (.cells (e_oR_Shard s10.2) false false))])
def oH_Image_J0 (s10:Int × oR_Shard) (l:List oH_RawOp) (bend:Int):Option (Unit ⊕ Unit) :=
 cond (decide (s10.1 < (l.length:Int))) (cond (decide (s10.1 < 12)) (some (.inl ())) (some (.inr ()))) (some (.inr ()))
theorem s_oH_Image_J0 (d:Nat) {s10:Int × oR_Shard} {l:List oH_RawOp} {bend:Int} {r:Unit ⊕ Unit} (h:oH_Image_J0 s10 l bend=some r):RunX (bexec (wcalls atab (d+0)) KK 113 WJ14_bbabkla) 0 (in_oH_Image_J0 s10 l bend) (fin_oH_Image_J0 s10 l bend r):=by
 unfold oH_Image_J0 at h
 exact run_by nB WJ14_bbabkla_ok h (.br 25 (fun _=>.br 28 (fun _=>E1 [2,3,8,9,10] [none,none,none,none,none] [] [.slice none 8 0 0 true,.undef,.undef,.undef,.undef]) fun _=>E0 [3,8,9]) fun _=>E0 [3,8,9])
def st_oH_Image_L1 (l:List oH_RawOp) (bend:Int) (s10:Int × oR_Shard):List AV × WH:=([(l_oH_RawOp l),(.int .i64 bend),(.ptr (some (0,0))),(.ptr (some (1,0))),(.int .i64 s10.1)],[(some (.cells [(.int .i64 0),(.int .i64 0),(.slice none 2 0 0 true),(.slice none 4 0 0 true)] false false)),(some (.cells (e_oR_Shard s10.2) false false))])
def fin_oH_Image_L1 (l:List oH_RawOp) (bend:Int):oR_Shard→Ex × Fast × WH:=fun e=>((.exit 0),[(3,(.int .i64 bend)),(8,(.ptr (some (0,0)))),(9,(.ptr (some (1,0))))],[(some (.cells [(.int .i64 0),(.int .i64 0),(.slice none 2 0 0 true),(.slice none 4 0 0 true)] false false)),(some (.cells (e_oR_Shard e) false false))])
abbrev rx_oH_Image_L1 (l:List oH_RawOp) (bend:Int):=roundX [2,3,8,9,10] (st_oH_Image_L1 l bend) (fin_oH_Image_L1 l bend)
def oH_Image_L1_s (l:List oH_RawOp) (bend:Int) (s10:Int × oR_Shard):Option ((Int × oR_Shard) ⊕ (oR_Shard)) :=
 (oH_Image_J0 s10 l bend).bind fun (x11:Unit ⊕ Unit)=>cond (isL x11) ((getI l s10.1).bind fun (x13:oH_RawOp)=>(oH_Pick x13.Kind 3).bind fun (x14:Int)=>(oH_Req (⟨(IntKind.i64.wrap (1+x14)),x13.Key,x13.Value,x13.Old,x13.Client,x13.Seq,0,x13.Text⟩:oH_RawOp)).bind fun (x15:api_Req)=>(oR_Shard_Ask x15 s10.2).bind fun (x16:api_Answer × Bool × oR_Shard)=>some (.inl ((IntKind.i64.wrap (s10.1+1)),x16.2.2))) (some (.inr s10.2))
def oH_Image_L1 (l:List oH_RawOp) (bend:Int) (s10:Int × oR_Shard):Option (oR_Shard):=loopX (oH_Image_L1_s l bend) KK s10
theorem b_oH_Image_L1 (d:Nat) {l:List oH_RawOp} {bend:Int} {s10:Int × oR_Shard} {r:(Int × oR_Shard) ⊕ (oR_Shard)} (h:oH_Image_L1_s l bend s10=some r):RunX (bexec (wcalls atab (d+4)) KK 113 WB14_0) 0 (inL [2,3,8,9,10] (st_oH_Image_L1 l bend s10)) (rx_oH_Image_L1 l bend r):=by
 unfold oH_Image_L1_s at h
 exact run_by nB WB14_0_ok h (.bd fun x11 q11=>.ite (fun hb12=>Jn [2,3,8,9,10] [none,none,none,none,none] [] [.slice none 8 0 0 true,.undef,.undef,.undef,.undef] (rwr (il hb12) (s_oH_Image_J0 (d+4) q11)) <| .bd fun x13 q13=>Ix R_oH_RawOp 33 q13 <| .st none <| .st none <| .bd fun x14 q14=>Cb0 (s_oH_Pick (d+3) q14) <| .st none <| .bd fun x15 q15=>Cb0 (s_oH_Req (d+0) q15) <| .bd fun x16 q16=>Cl [] Fo [] (s_oR_Shard_Ask (d+1) q16) <| E1 [2,3,8,9,10] [none,none,none,none,none] [] [.slice none 8 0 0 true,.undef,.undef,.undef,.undef]) fun hb12=>Jn [2,3,8,9,10] [none,none,none,none,none] [] [.slice none 8 0 0 true,.undef,.undef,.undef,.undef] (rwr (ir0 hb12) (s_oH_Image_J0 (d+4) q11)) <| E0 [3,8,9])
theorem s_oH_Image_L1 (d:Nat) {l:List oH_RawOp} {bend:Int} {s10:Int × oR_Shard} {r:oR_Shard} (h:oH_Image_L1 l bend s10=some r):RunX (bloop (bexec (wcalls atab (d+4)) KK 113 WB14_0) [2,3,8,9,10] KK) 0 (inL [2,3,8,9,10] (st_oH_Image_L1 l bend s10)) (fin_oH_Image_L1 l bend r) :=
 loop_of (st:=st_oH_Image_L1 l bend) (fin:=fin_oH_Image_L1 l bend) (step:=oH_Image_L1_s l bend) (fun e=>by (intro h; cases h)) (fun s x h=>b_oH_Image_L1 d h) KK s10 r h
def oH_Image (k:Int) (epoch:Int) (l:List oH_RawOp) (bend:Int):Option (api_Image) :=
 (oH_Pick k 6).bind fun (x1:Int)=>(oH_Pick epoch 6).bind fun (x2:Int)=>(oR_ShardFrom (⟨x1,(IntKind.i64.wrap (1+x2)),[],[]⟩:api_Image)).bind fun (x3:oR_Shard)=>(oH_Image_L1 l bend (0,x3)).bind fun (x17:oR_Shard)=>(oR_Shard_Image_2 x17).bind fun (x18:Int × Int × List api_Pair × List api_Sess)=>(oH_Pick bend 14).bind fun (x19:Int)=>cond (x19 == 8) ((oH_Num (IntKind.i64.wrap (Int.tdiv bend 14))).bind fun (x20:Int)=>some (⟨x20,x18.2.1,x18.2.2.1,x18.2.2.2⟩:api_Image)) (cond (x19 == 9) ((oH_Num (IntKind.i64.wrap (Int.tdiv bend 14))).bind fun (x21:Int)=>some (⟨x18.1,(IntKind.i64.wrap (x21 - 1)),x18.2.2.1,x18.2.2.2⟩:api_Image)) (cond (x19 == 10) ((oH_Key (IntKind.i64.wrap (Int.tdiv bend 14))).bind fun (x22:List UInt8)=>gd (fitsB 32 (x18.2.2.1 ++ [(⟨x22,[118]⟩:api_Pair)]).length) (some (⟨x18.1,x18.2.1,(x18.2.2.1 ++ [(⟨x22,[118]⟩:api_Pair)]),x18.2.2.2⟩:api_Image))) (cond (x19 == 11) (cond (decide ((x18.2.2.2.length:Int) > 0)) ((oH_Pick (IntKind.i64.wrap (Int.tdiv bend 14)) 14).bind fun (x24:Int)=>(getI x18.2.2.2 0).bind fun (x25:api_Sess)=>some (⟨x18.1,x18.2.1,x18.2.2.1,(x18.2.2.2.set (0:Int).toNat (⟨x25.Client,x25.Seq,(⟨(IntKind.i64.wrap (x24 - 1)),x25.Answer.Value⟩:api_Answer)⟩:api_Sess))⟩:api_Image)) (some (⟨x18.1,x18.2.1,x18.2.2.1,x18.2.2.2⟩:api_Image))) (cond (x19 == 12) (cond (decide ((x18.2.2.1.length:Int) > 1)) ((getI x18.2.2.1 0).bind fun (x26:api_Pair)=>(getI x18.2.2.1 1).bind fun (x27:api_Pair)=>(getI x18.2.2.1 0).bind fun (x28:api_Pair)=>(getI (x18.2.2.1.set (0:Int).toNat x27) 1).bind fun (x29:api_Pair)=>some (⟨x18.1,x18.2.1,((x18.2.2.1.set (0:Int).toNat x27).set (1:Int).toNat x26),x18.2.2.2⟩:api_Image)) (some (⟨x18.1,x18.2.1,x18.2.2.1,x18.2.2.2⟩:api_Image))) (cond (x19 == 13) (some (⟨0,0,[],[]⟩:api_Image)) (some (⟨x18.1,x18.2.1,x18.2.2.1,x18.2.2.2⟩:api_Image)))))))
def out_oH_Image (k:Int) (epoch:Int) (l:List oH_RawOp) (bend:Int) (r:api_Image):AV × WH:=((.agg (e_api_Image r)),[])
theorem s_oH_Image (d:Nat) {k:Int} {epoch:Int} {l:List oH_RawOp} {bend:Int} {r:api_Image} (h:oH_Image k epoch l bend=some r):Spec (wcalls atab (d+5)) 14 [(.int .i64 k),(.int .i64 epoch),(l_oH_RawOp l),(.int .i64 bend)] [] (out_oH_Image k epoch l bend r).1 (out_oH_Image k epoch l bend r).2:=by
 unfold oH_Image at h
 exact spec_by nB AF14 h (.z 8 [.undef,.undef,.slice none 2 0 0 true,.slice none 4 0 0 true] <| .bd fun x1 q1=>Cb0 (s_oH_Pick (d+3) q1) <| .bd fun x2 q2=>Cb0 (s_oH_Pick (d+3) q2) <| .z 19 [.agg [.undef,.undef,.slice none 2 0 0 true,.slice none 4 0 0 true]] <| .bd fun x3 q3=>Cl [] Fo [.agg [.undef,.undef,.slice none 2 0 0 true,.slice none 4 0 0 true]] (s_oR_ShardFrom (d+0) q3) <| .bd fun x17 q17=>Lp [none,none,none,none,none] [] [.slice none 8 0 0 true,.undef,.undef,.undef,.undef] (s_oH_Image_L1 (d+0) q17) <| .bd fun x18 q18=>Cl [Fo] none [] (s_oR_Shard_Image_2 (d+3) q18) <| .z 12 [.undef,.undef,.slice none 2 0 0 true,.slice none 4 0 0 true] <| .st none <| .bd fun x19 q19=>Cb0 (s_oH_Pick (d+3) q19) <| .br 49 (fun _=>.bd fun x20 q20=>Cb0 (s_oH_Num (d+2) q20) <| .st none <| .st none <| Fn Fo [.agg [.undef,.undef,.slice none 2 0 0 true,.slice none 4 0 0 true]] none) fun _=>.br 55 (fun _=>.bd fun x21 q21=>Cb0 (s_oH_Num (d+2) q21) <| .st none <| .st none <| Fn Fo [.agg [.undef,.undef,.slice none 2 0 0 true,.slice none 4 0 0 true]] none) fun _=>.br 62 (fun _=>.bd fun x22 q22=>Cb0 (s_oH_Key (d+2) q22) <| .gd fun q23=>Ap R_api_Pair 71 q23 <| .st none <| .st none <| Fn Fo [.agg [.undef,.undef,.slice none 2 0 0 true,.slice none 4 0 0 true]] none) fun _=>.br 73 (fun _=>.br 78 (fun _=>.bd fun x24 q24=>Cb0 (s_oH_Pick (d+3) q24) <| .bd fun x25 q25=>Ia R_api_Sess 85 3 q25 <| .st (some (F_api_Sess (x18.2.2.2.set (0:Int).toNat (⟨x25.Client,x25.Seq,(⟨(IntKind.i64.wrap (x24 - 1)),x25.Answer.Value⟩:api_Answer)⟩:api_Sess)))) <| .ob (wr_row (o:=2) R_api_Sess q25 rfl:wrC (F_api_Sess x18.2.2.2) (0+(0:Int).toNat * 4+2) [(.int .i64 (IntKind.i64.wrap (x24 - 1)))]=some (F_api_Sess (x18.2.2.2.set (0:Int).toNat (⟨x25.Client,x25.Seq,(⟨(IntKind.i64.wrap (x24 - 1)),x25.Answer.Value⟩:api_Answer)⟩:api_Sess)))) <| .st none <| .leafq (.fin (some false) [.agg [.undef,.undef,.slice none 2 0 0 true,.slice none 4 0 0 true]] none) _ (fun r=>@Eq AV (.agg [(.int .i64 x18.1),(.int .i64 x18.2.1),(l_api_Pair x18.2.2.1),(.list 4 x18.2.2.2.length (F_api_Sess (x18.2.2.2.set (0:Int).toNat (⟨x25.Client,x25.Seq,(⟨(IntKind.i64.wrap (x24 - 1)),x25.Answer.Value⟩:api_Answer)⟩:api_Sess))) false)]) (out_oH_Image k epoch l bend r).1∧@Eq WH [] (out_oH_Image k epoch l bend r).2) (by show _∧_; (try rw [show AV.list 4 x18.2.2.2.length (F_api_Sess (x18.2.2.2.set (0:Int).toNat (⟨x25.Client,x25.Seq,(⟨(IntKind.i64.wrap (x24 - 1)),x25.Answer.Value⟩:api_Answer)⟩:api_Sess))) false=l_api_Sess (x18.2.2.2.set (0:Int).toNat (⟨x25.Client,x25.Seq,(⟨(IntKind.i64.wrap (x24 - 1)),x25.Answer.Value⟩:api_Answer)⟩:api_Sess)) from by simp only [l_api_Sess,List.length_set]]); refine ⟨?_, ?_⟩ <;> first | rfl | (simp only [out_oH_Image,List.length_set,List.length_append,List.length_replicate,List.length_cons,List.length_nil,List.length_take,List.length_drop,Nat.add_zero,Nat.zero_add]; done) | simp [out_oH_Image])) fun _=>.st none <| Fn Fo [.agg [.undef,.undef,.slice none 2 0 0 true,.slice none 4 0 0 true]] none) fun _=>.br 88 (fun _=>.br 93 (fun _=>.bd fun x26 q26=>Ia R_api_Pair 96 2 q26 <| Ld R_api_Pair 97 true 2 0 q26 (.agg (e_api_Pair x26)) rfl <| .st none <| .bd fun x27 q27=>Ia R_api_Pair 102 2 q27 <| Ld R_api_Pair 103 true 2 0 q27 (.agg (e_api_Pair x27)) rfl <| .bd fun x28 q28=>Ia R_api_Pair 104 2 q28 <| .st (some (F_api_Pair (x18.2.2.1.set (0:Int).toNat x27))) <| .ob (wr_row (o:=0) R_api_Pair q28 rfl:wrC (F_api_Pair x18.2.2.1) (0+(0:Int).toNat * 2) [(.str x27.Key),(.str x27.Value)]=some (F_api_Pair (x18.2.2.1.set (0:Int).toNat x27))) <| .bd fun x29 q29=>.v 108 (.ptr (some (2,0+(1:Int).toNat * 2))) <| .ob (by (try rw [show AV.list 2 x18.2.2.1.length (F_api_Pair (x18.2.2.1.set (0:Int).toNat x27)) false=l_api_Pair (x18.2.2.1.set (0:Int).toNat x27) from by simp only [l_api_Pair,List.length_set]]); rw [show (x18.2.2.1.length:Nat)=(x18.2.2.1.set (0:Int).toNat x27).length from by simp only [List.length_set,List.length_append,List.length_replicate]]; exact wP_idxA R_api_Pair q29:wP (.idxSlice 2 (.c (.acc 2 0 2 x18.2.2.1.length true)) (.c (.int .i64 1)))=some (.ptr (some (2,0+(1:Int).toNat * 2)))) <| .st (some (F_api_Pair ((x18.2.2.1.set (0:Int).toNat x27).set (1:Int).toNat x26))) <| .ob (by (try rw [show AV.list 2 x18.2.2.1.length (F_api_Pair (x18.2.2.1.set (0:Int).toNat x27)) false=l_api_Pair (x18.2.2.1.set (0:Int).toNat x27) from by simp only [l_api_Pair,List.length_set]]); exact wr_row (o:=0) R_api_Pair q29 rfl:wrC (F_api_Pair (x18.2.2.1.set (0:Int).toNat x27)) (0+(1:Int).toNat * 2) [(.str x26.Key),(.str x26.Value)]=some (F_api_Pair ((x18.2.2.1.set (0:Int).toNat x27).set (1:Int).toNat x26))) <| .st none <| .leafq (.fin (some false) [.agg [.undef,.undef,.slice none 2 0 0 true,.slice none 4 0 0 true]] none) _ (fun r=>@Eq AV (.agg [(.int .i64 x18.1),(.int .i64 x18.2.1),(.list 2 x18.2.2.1.length (F_api_Pair ((x18.2.2.1.set (0:Int).toNat x27).set (1:Int).toNat x26)) false),(l_api_Sess x18.2.2.2)]) (out_oH_Image k epoch l bend r).1∧@Eq WH [] (out_oH_Image k epoch l bend r).2) (by show _∧_; (try rw [show AV.list 2 x18.2.2.1.length (F_api_Pair (x18.2.2.1.set (0:Int).toNat x27)) false=l_api_Pair (x18.2.2.1.set (0:Int).toNat x27) from by simp only [l_api_Pair,List.length_set]]); (try rw [show AV.list 2 x18.2.2.1.length (F_api_Pair ((x18.2.2.1.set (0:Int).toNat x27).set (1:Int).toNat x26)) false=l_api_Pair ((x18.2.2.1.set (0:Int).toNat x27).set (1:Int).toNat x26) from by simp only [l_api_Pair,List.length_set]]); refine ⟨?_, ?_⟩ <;> first | rfl | (simp only [out_oH_Image,List.length_set,List.length_append,List.length_replicate,List.length_cons,List.length_nil,List.length_take,List.length_drop,Nat.add_zero,Nat.zero_add]; done) | simp [out_oH_Image])) fun _=>.st none <| Fn Fo [.agg [.undef,.undef,.slice none 2 0 0 true,.slice none 4 0 0 true]] none) fun _=>.br 109 (fun _=>.z 111 [.agg [.undef,.undef,.slice none 2 0 0 true,.slice none 4 0 0 true]] <| .st none <| .st none <| Fn Fo [.agg [.undef,.undef,.slice none 2 0 0 true,.slice none 4 0 0 true]] none) fun _=>.st none <| Fn Fo [.agg [.undef,.undef,.slice none 2 0 0 true,.slice none 4 0 0 true]] none)
def oR_NoneReq (p_r:api_Req):Option (Bool) :=
 some (p_r.Client == 0 && (p_r.Seq == 0 && (p_r.Op.Kind == 0 && (p_r.Op.Key == ([]:List UInt8) && (p_r.Op.Value == ([]:List UInt8) && (p_r.Op.Old == ([]:List UInt8) && true))))))
def out_oR_NoneReq (p_r:api_Req) (r:Bool):AV × WH:=((.bool r),[])
theorem s_oR_NoneReq (d:Nat) {p_r:api_Req} {r:Bool} (h:oR_NoneReq p_r=some r):Spec (wcalls atab (d+1)) 81 [(.agg (e_api_Req p_r))] [] (out_oR_NoneReq p_r r).1 (out_oR_NoneReq p_r r).2:=by
 unfold oR_NoneReq at h
 exact spec_by nB AF81 h (Fn Fo [] none)
def oR_MayReq (p_r:api_Req):Option (Bool) :=
 (oR_NoneReq p_r).bind fun (x1:Bool)=>cond x1 (some true) ((oR_RightReq p_r).bind fun (x2:Bool)=>some x2)
def out_oR_MayReq (p_r:api_Req) (r:Bool):AV × WH:=((.bool r),[])
theorem s_oR_MayReq (d:Nat) {p_r:api_Req} {r:Bool} (h:oR_MayReq p_r=some r):Spec (wcalls atab (d+3)) 22 [(.agg (e_api_Req p_r))] [] (out_oR_MayReq p_r r).1 (out_oR_MayReq p_r r).2:=by
 unfold oR_MayReq at h
 exact spec_by nB AF22 h (.bd fun x1 q1=>Cb0 (s_oR_NoneReq (d+1) q1) <| .br 5 (fun _=>Fn Fo [] none) fun _=>.bd fun x2 q2=>Cb0 (s_oR_RightReq (d+0) q2) <| Fn Fo [] none)
abbrev in_oR_SameImage_J0 (a:api_Image) (p_b:api_Image):Fast × WH:=([(2,(.ptr (some (0,0)))),(3,(.ptr (some (1,0))))],[(some (.cells (e_api_Image a) false false)),(some (.cells (e_api_Image p_b) false false))])
def fin_oR_SameImage_J0 (a:api_Image) (p_b:api_Image):Unit ⊕ Unit→Ex × Fast × WH:=fun
 | .inl e=>(.ret,[(4,(.bool false))],[])
 | .inr e=>(.normal,[(2,(.ptr (some (0,0)))),(3,(.ptr (some (1,0))))],[(some (.cells (e_api_Image a) false false)),(some (.cells (e_api_Image p_b) false false))])
def oR_SameImage_J0 (a:api_Image) (p_b:api_Image):Option (Unit ⊕ Unit) :=
 cond (a.Shard != p_b.Shard) (some (.inl ())) (cond (a.Epoch != p_b.Epoch) (some (.inl ())) (cond ((a.Pairs.length:Int) != (p_b.Pairs.length:Int)) (some (.inl ())) (cond ((a.Sess.length:Int) != (p_b.Sess.length:Int)) (some (.inl ())) (some (.inr ())))))
theorem s_oR_SameImage_J0 (d:Nat) {a:api_Image} {p_b:api_Image} {r:Unit ⊕ Unit} (h:oR_SameImage_J0 a p_b=some r):RunX (bexec (wcalls atab (d+0)) KK 73 WJ34_ba) 0 (in_oR_SameImage_J0 a p_b) (fin_oR_SameImage_J0 a p_b r):=by
 unfold oR_SameImage_J0 at h
 exact run_by nB WJ34_ba_ok h (.br 12 (fun _=>E0 [4]) fun _=>.br 19 (fun _=>E0 [4]) fun _=>.br 28 (fun _=>E0 [4]) fun _=>.br 36 (fun _=>E0 [4]) fun _=>E0 [2,3])
def st_oR_SameImage_L1 (a:api_Image) (p_b:api_Image) (s5:Int):List AV × WH:=([(.ptr (some (0,0))),(.ptr (some (1,0))),(.int .i64 s5)],[(some (.cells (e_api_Image a) false false)),(some (.cells (e_api_Image p_b) false false))])
def fin_oR_SameImage_L1 (a:api_Image) (p_b:api_Image):Unit ⊕ Unit→Ex × Fast × WH:=fun
 | .inl e=>(.ret,[(4,(.bool false))],[])
 | .inr e=>((.exit 0),[(2,(.ptr (some (0,0)))),(3,(.ptr (some (1,0))))],[(some (.cells (e_api_Image a) false false)),(some (.cells (e_api_Image p_b) false false))])
abbrev rx_oR_SameImage_L1 (a:api_Image) (p_b:api_Image):=roundX [2,3,5] (st_oR_SameImage_L1 a p_b) (fin_oR_SameImage_L1 a p_b)
def oR_SameImage_L1_s (a:api_Image) (p_b:api_Image) (s5:Int):Option ((Int) ⊕ (Unit ⊕ Unit)) :=
 cond (decide (s5 < (a.Pairs.length:Int))) ((getI a.Pairs s5).bind fun (x6:api_Pair)=>(getI p_b.Pairs s5).bind fun (x7:api_Pair)=>cond (!(x6.Key == x7.Key && (x6.Value == x7.Value && true))) (some (.inr (.inl ()))) (some (.inl (IntKind.i64.wrap (s5+1))))) (some (.inr (.inr ())))
def oR_SameImage_L1 (a:api_Image) (p_b:api_Image) (s5:Int):Option (Unit ⊕ Unit):=loopX (oR_SameImage_L1_s a p_b) KK s5
theorem b_oR_SameImage_L1 (d:Nat) {a:api_Image} {p_b:api_Image} {s5:Int} {r:(Int) ⊕ (Unit ⊕ Unit)} (h:oR_SameImage_L1_s a p_b s5=some r):RunX (bexec (wcalls atab (d+0)) KK 73 WB34_0) 0 (inL [2,3,5] (st_oR_SameImage_L1 a p_b s5)) (rx_oR_SameImage_L1 a p_b r):=by
 unfold oR_SameImage_L1_s at h
 exact run_by nB WB34_0_ok h (.br 41 (fun _=>.bd fun x6 q6=>Ix R_api_Pair 47 q6 <| .bd fun x7 q7=>Ix R_api_Pair 52 q7 <| .br 54 (fun _=>E0 [4]) fun _=>E0 [2,3,5]) fun _=>E0 [2,3])
theorem s_oR_SameImage_L1 (d:Nat) {a:api_Image} {p_b:api_Image} {s5:Int} {r:Unit ⊕ Unit} (h:oR_SameImage_L1 a p_b s5=some r):RunX (bloop (bexec (wcalls atab (d+0)) KK 73 WB34_0) [2,3,5] KK) 0 (inL [2,3,5] (st_oR_SameImage_L1 a p_b s5)) (fin_oR_SameImage_L1 a p_b r) :=
 loop_of (st:=st_oR_SameImage_L1 a p_b) (fin:=fin_oR_SameImage_L1 a p_b) (step:=oR_SameImage_L1_s a p_b) (fun e=>by rcases e with e | e <;> (intro h; cases h)) (fun s x h=>b_oR_SameImage_L1 d h) KK s5 r h
def st_oR_SameImage_L2 (a:api_Image) (p_b:api_Image) (s12:Int):List AV × WH:=([(.ptr (some (0,0))),(.ptr (some (1,0))),(.int .i64 s12)],[(some (.cells (e_api_Image a) false false)),(some (.cells (e_api_Image p_b) false false))])
def fin_oR_SameImage_L2 (a:api_Image) (p_b:api_Image):Unit ⊕ Unit→Ex × Fast × WH:=fun
 | .inl e=>(.ret,[(4,(.bool false))],[])
 | .inr e=>((.exit 2),[],[])
abbrev rx_oR_SameImage_L2 (a:api_Image) (p_b:api_Image):=roundX [2,3,6] (st_oR_SameImage_L2 a p_b) (fin_oR_SameImage_L2 a p_b)
def oR_SameImage_L2_s (a:api_Image) (p_b:api_Image) (s12:Int):Option ((Int) ⊕ (Unit ⊕ Unit)) :=
 cond (decide (s12 < (a.Sess.length:Int))) ((getI a.Sess s12).bind fun (x13:api_Sess)=>(getI p_b.Sess s12).bind fun (x14:api_Sess)=>cond (!(x13.Client == x14.Client && (x13.Seq == x14.Seq && (x13.Answer.Why == x14.Answer.Why && (x13.Answer.Value == x14.Answer.Value && true))))) (some (.inr (.inl ()))) (some (.inl (IntKind.i64.wrap (s12+1))))) (some (.inr (.inr ())))
def oR_SameImage_L2 (a:api_Image) (p_b:api_Image) (s12:Int):Option (Unit ⊕ Unit):=loopX (oR_SameImage_L2_s a p_b) KK s12
theorem b_oR_SameImage_L2 (d:Nat) {a:api_Image} {p_b:api_Image} {s12:Int} {r:(Int) ⊕ (Unit ⊕ Unit)} (h:oR_SameImage_L2_s a p_b s12=some r):RunX (bexec (wcalls atab (d+0)) KK 73 WB34_1) 0 (inL [2,3,6] (st_oR_SameImage_L2 a p_b s12)) (rx_oR_SameImage_L2 a p_b r):=by
 unfold oR_SameImage_L2_s at h
 exact run_by nB WB34_1_ok h (.br 59 (fun _=>.bd fun x13 q13=>Ix R_api_Sess 65 q13 <| .bd fun x14 q14=>Ix R_api_Sess 70 q14 <| .br 72 (fun _=>E0 [4]) fun _=>E0 [2,3,6]) fun _=>E0 [])
theorem s_oR_SameImage_L2 (d:Nat) {a:api_Image} {p_b:api_Image} {s12:Int} {r:Unit ⊕ Unit} (h:oR_SameImage_L2 a p_b s12=some r):RunX (bloop (bexec (wcalls atab (d+0)) KK 73 WB34_1) [2,3,6] KK) 0 (inL [2,3,6] (st_oR_SameImage_L2 a p_b s12)) (fin_oR_SameImage_L2 a p_b r) :=
 loop_of (st:=st_oR_SameImage_L2 a p_b) (fin:=fin_oR_SameImage_L2 a p_b) (step:=oR_SameImage_L2_s a p_b) (fun e=>by rcases e with e | e <;> (intro h; cases h)) (fun s x h=>b_oR_SameImage_L2 d h) KK s12 r h
def oR_SameImage (a:api_Image) (p_b:api_Image):Option (Bool) :=
 (oR_SameImage_J0 a p_b).bind fun (x1:Unit ⊕ Unit)=>cond (isL x1) (some false) ((oR_SameImage_L1 a p_b 0).bind fun (x8:Unit ⊕ Unit)=>cond (isL x8) (some false) ((oR_SameImage_L2 a p_b 0).bind fun (x15:Unit ⊕ Unit)=>cond (isL x15) (some false) (some true)))
def out_oR_SameImage (a:api_Image) (p_b:api_Image) (r:Bool):AV × WH:=((.bool r),[])
theorem s_oR_SameImage (d:Nat) {a:api_Image} {p_b:api_Image} {r:Bool} (h:oR_SameImage a p_b=some r):Spec (wcalls atab (d+1)) 34 [(.agg (e_api_Image a)),(.agg (e_api_Image p_b))] [] (out_oR_SameImage a p_b r).1 (out_oR_SameImage a p_b r).2:=by
 unfold oR_SameImage at h
 exact spec_by nB AF34 h (.sk <| .bd fun x1 q1=>.ite (fun hb2=>Jn [2,3] [none,none] [] [] (rwr (il hb2) (s_oR_SameImage_J0 (d+0) q1)) <| Fn Fo [] none) fun hb2=>Jn [2,3] [none,none] [] [] (rwr (ir0 hb2) (s_oR_SameImage_J0 (d+0) q1)) <| .bd fun x8 q8=>.ite (fun hb9=>Lp [none,none,none] [] [] (rwr (il hb9) (s_oR_SameImage_L1 (d+0) q8)) <| Fn Fo [] none) fun hb9=>Lp [none,none,none] [] [] (rwr (ir0 hb9) (s_oR_SameImage_L1 (d+0) q8)) <| .bd fun x15 q15=>.ite (fun hb16=>Lp [none,none,none] [] [] (rwr (il hb16) (s_oR_SameImage_L2 (d+0) q15)) <| Fn Fo [] none) fun hb16=>Lp [none,none,none] [] [] (rwr (ir0 hb16) (s_oR_SameImage_L2 (d+0) q15)) <| Fn Fo [] none)
abbrev in_table_Right_J0 (o:api_Op):Fast × WH:=([(1,(.ptr (some (0,0))))],[(some (.cells (e_api_Op o) false false))])
def fin_table_Right_J0 (o:api_Op):Bool→Ex × Fast × WH:=fun e=>(.normal,[(1,(.ptr (some (0,0)))),(3,(.bool e))],[(some (.cells (e_api_Op o) false false))])
def table_Right_J0 (o:api_Op):Option (Bool) :=
 cond (o.Kind == 2) (some true) (some (o.Kind == 4))
theorem s_table_Right_J0 (d:Nat) {o:api_Op} {r:Bool} (h:table_Right_J0 o=some r):RunX (bexec (wcalls atab (d+0)) KK 53 WJ80_ba) 0 (in_table_Right_J0 o) (fin_table_Right_J0 o r):=by
 unfold table_Right_J0 at h
 exact run_by nB WJ80_ba_ok h (.br 7 (fun _=>E0 [1,3]) fun _=>E0 [1,3])
abbrev in_table_Right_J1 (o:api_Op) (x1:Bool):Fast × WH:=([(1,(.ptr (some (0,0)))),(3,(.bool x1))],[(some (.cells (e_api_Op o) false false))])
def fin_table_Right_J1 (o:api_Op) (x1:Bool):Bool→Ex × Fast × WH:=fun e=>(.normal,[(1,(.ptr (some (0,0)))),(3,(.bool x1)),(12,(.bool e))],[(some (.cells (e_api_Op o) false false))])
def table_Right_J1 (o:api_Op) (x1:Bool):Option (Bool) :=
 cond (decide (o.Kind < 1)) (some true) (some (decide (o.Kind > 4)))
theorem s_table_Right_J1 (d:Nat) {o:api_Op} {x1:Bool} {r:Bool} (h:table_Right_J1 o x1=some r):RunX (bexec (wcalls atab (d+0)) KK 53 WJ80_bbakaa) 0 (in_table_Right_J1 o x1) (fin_table_Right_J1 o x1 r):=by
 unfold table_Right_J1 at h
 exact run_by nB WJ80_bbakaa_ok h (.br 16 (fun _=>E0 [1,3,12]) fun _=>E0 [1,3,12])
abbrev in_table_Right_J2 (o:api_Op) (x1:Bool):Fast × WH:=([(1,(.ptr (some (0,0)))),(3,(.bool x1))],[(some (.cells (e_api_Op o) false false))])
def fin_table_Right_J2 (o:api_Op) (x1:Bool):Bool→Ex × Fast × WH:=fun e=>(.normal,[(1,(.ptr (some (0,0)))),(3,(.bool x1)),(12,(.bool e))],[(some (.cells (e_api_Op o) false false))])
def table_Right_J2 (o:api_Op) (x1:Bool):Option (Bool) :=
 (table_Right_J1 o x1).bind fun (x2:Bool)=>cond x2 (some true) (cond (o.Key == ([]:List UInt8)) (some true) (some (decide ((o.Key.length:Int) > 8))))
theorem s_table_Right_J2 (d:Nat) {o:api_Op} {x1:Bool} {r:Bool} (h:table_Right_J2 o x1=some r):RunX (bexec (wcalls atab (d+0)) KK 53 WJ80_bbaka) 0 (in_table_Right_J2 o x1) (fin_table_Right_J2 o x1 r):=by
 unfold table_Right_J2 at h
 exact run_by nB WJ80_bbaka_ok h (.bd fun x2 q2=>Jn [1,3] [none,none] [] [] (s_table_Right_J1 (d+0) q2) <| .br 12 (fun _=>E0 [1,3,12]) fun _=>.br 12 (fun _=>E0 [1,3,12]) fun _=>E0 [1,3,12])
abbrev in_table_Right_J3 (o:api_Op) (x1:Bool):Fast × WH:=([(1,(.ptr (some (0,0)))),(3,(.bool x1))],[(some (.cells (e_api_Op o) false false))])
def fin_table_Right_J3 (o:api_Op) (x1:Bool):Unit ⊕ Unit→Ex × Fast × WH:=fun
 | .inl e=>(.ret,[(2,(.bool false))],[])
 | .inr e=>(.normal,[(1,(.ptr (some (0,0)))),(3,(.bool x1))],[(some (.cells (e_api_Op o) false false))])
def table_Right_J3 (o:api_Op) (x1:Bool):Option (Unit ⊕ Unit) :=
 (table_Right_J2 o x1).bind fun (x3:Bool)=>cond x3 (some (.inl ())) (cond (decide ((o.Value.length:Int) > 16)) (some (.inl ())) (cond (decide ((o.Old.length:Int) > 16)) (some (.inl ())) (some (.inr ()))))
theorem s_table_Right_J3 (d:Nat) {o:api_Op} {x1:Bool} {r:Unit ⊕ Unit} (h:table_Right_J3 o x1=some r):RunX (bexec (wcalls atab (d+0)) KK 53 WJ80_bba) 0 (in_table_Right_J3 o x1) (fin_table_Right_J3 o x1 r):=by
 unfold table_Right_J3 at h
 exact run_by nB WJ80_bba_ok h (.bd fun x3 q3=>Jn [1,3] [none,none] [] [] (s_table_Right_J2 (d+0) q3) <| .br 12 (fun _=>E0 [2]) fun _=>.br 28 (fun _=>E0 [2]) fun _=>.br 28 (fun _=>E0 [2]) fun _=>E0 [1,3])
def table_Right (o:api_Op):Option (Bool) :=
 (table_Right_J0 o).bind fun (x1:Bool)=>(table_Right_J3 o x1).bind fun (x4:Unit ⊕ Unit)=>cond (isL x4) (some false) (cond x1 (cond (o.Kind == 4) (some true) (some (o.Old == ([]:List UInt8)))) (cond (o.Value == ([]:List UInt8)) (cond (o.Kind == 4) (some true) (some (o.Old == ([]:List UInt8)))) (some false)))
def out_table_Right (o:api_Op) (r:Bool):AV × WH:=((.bool r),[])
theorem s_table_Right (d:Nat) {o:api_Op} {r:Bool} (h:table_Right o=some r):Spec (wcalls atab (d+1)) 80 [(.agg (e_api_Op o))] [] (out_table_Right o r).1 (out_table_Right o r).2:=by
 unfold table_Right at h
 exact spec_by nB AF80 h (.sk <| .bd fun x1 q1=>Jn [1] [none] [] [] (s_table_Right_J0 (d+0) q1) <| .bd fun x4 q4=>.ite (fun hb5=>Jn [1,3] [none,none] [] [] (rwr (il hb5) (s_table_Right_J3 (d+0) q4)) <| Fn Fo [] none) fun hb5=>Jn [1,3] [none,none] [] [] (rwr (ir0 hb5) (s_table_Right_J3 (d+0) q4)) <| .br 38 (fun _=>.br 47 (fun _=>Fn Fo [] none) fun _=>Fn Fo [] none) fun _=>.br 43 (fun _=>.br 47 (fun _=>Fn Fo [] none) fun _=>Fn Fo [] none) fun _=>Fn Fo [] none)
def codec_RightReq (p_r:api_Req):Option (Bool) :=
 cond (p_r.Client == 0 && (p_r.Seq == 0 && (p_r.Op.Kind == 0 && (p_r.Op.Key == ([]:List UInt8) && (p_r.Op.Value == ([]:List UInt8) && (p_r.Op.Old == ([]:List UInt8) && true)))))) (some true) (cond (decide (p_r.Client ≥ 0)) (cond (decide (p_r.Client < 4)) (cond (decide (p_r.Seq ≥ 1)) (cond (decide (p_r.Seq≤4611686018427387903)) ((table_Right p_r.Op).bind fun (x1:Bool)=>some x1) (some false)) (some false)) (some false)) (some false))
def out_codec_RightReq (p_r:api_Req) (r:Bool):AV × WH:=((.bool r),[])
theorem s_codec_RightReq (d:Nat) {p_r:api_Req} {r:Bool} (h:codec_RightReq p_r=some r):Spec (wcalls atab (d+2)) 21 [(.agg (e_api_Req p_r))] [] (out_codec_RightReq p_r r).1 (out_codec_RightReq p_r r).2:=by
 unfold codec_RightReq at h
 exact spec_by nB AF21 h (.br 5 (fun _=>Fn Fo [] none) fun _=>.br 9 (fun _=>.br 14 (fun _=>.br 19 (fun _=>.br 24 (fun _=>.bd fun x1 q1=>Cb0 (s_table_Right (d+0) q1) <| Fn Fo [] none) fun _=>Fn Fo [] none) fun _=>Fn Fo [] none) fun _=>Fn Fo [] none) fun _=>Fn Fo [] none)
abbrev in_nums_Put_J0 (x11:Int) (s10:Int × List UInt8) (n:List Int):Fast × WH:=([(5,(.acc 0 0 1 s10.2.length true)),(7,(.int .i64 x11)),(10,(l_I n)),(11,(.int .i64 (n.length:Int))),(12,(.int .i64 s10.1))],[(some (.cells (F_B s10.2) false true))])
def fin_nums_Put_J0 (x11:Int) (s10:Int × List UInt8) (n:List Int):Unit ⊕ Unit→Ex × Fast × WH:=fun
 | .inl e=>(.ret,[(4,(.slice none 1 0 0 true))],[])
 | .inr e=>(.normal,[(5,(.acc 0 0 1 s10.2.length true)),(7,(.int .i64 x11)),(10,(l_I n)),(11,(.int .i64 (n.length:Int))),(12,(.int .i64 s10.1))],[(some (.cells (F_B s10.2) false true))])
def nums_Put_J0 (x11:Int) (s10:Int × List UInt8) (n:List Int):Option (Unit ⊕ Unit) :=
 cond (decide (x11 < 0)) (some (.inl ())) (cond (decide (x11 > 4611686018427387903)) (some (.inl ())) (some (.inr ())))
theorem s_nums_Put_J0 (d:Nat) {x11:Int} {s10:Int × List UInt8} {n:List Int} {r:Unit ⊕ Unit} (h:nums_Put_J0 x11 s10 n=some r):RunX (bexec (wcalls atab (d+0)) KK 41 WJ79_bbabklbbakba) 0 (in_nums_Put_J0 x11 s10 n) (fin_nums_Put_J0 x11 s10 n r):=by
 unfold nums_Put_J0 at h
 exact run_by nB WJ79_bbabklbbakba_ok h (.br 18 (fun _=>E0 [4]) fun _=>.br 21 (fun _=>E0 [4]) fun _=>E0 [5,7,10,11,12])
def st_nums_Put_L1 (n:List Int) (s10:Int × List UInt8) (s15:Int × List UInt8):List AV × WH:=([(.acc 0 0 1 s15.2.length true),(.int .i64 s15.1),(l_I n),(.int .i64 (n.length:Int)),(.int .i64 s10.1)],[(some (.cells (F_B s15.2) false true))])
def fin_nums_Put_L1 (n:List Int) (s10:Int × List UInt8):(Int × List UInt8)→Ex × Fast × WH:=fun e=>((.exit 2),[(5,(.acc 0 0 1 e.2.length true)),(7,(.int .i64 e.1)),(10,(l_I n)),(11,(.int .i64 (n.length:Int))),(12,(.int .i64 s10.1))],[(some (.cells (F_B e.2) false true))])
abbrev rx_nums_Put_L1 (n:List Int) (s10:Int × List UInt8):=roundX [5,7,10,11,12] (st_nums_Put_L1 n s10) (fin_nums_Put_L1 n s10)
def nums_Put_L1_s (n:List Int) (s10:Int × List UInt8) (s15:Int × List UInt8):Option ((Int × List UInt8) ⊕ ((Int × List UInt8))) :=
 cond (decide (s15.1 > 127)) (gd (fitsB 1 (s15.2 ++ [(u8w (orI .i64 (andI .i64 s15.1 127) 128))]).length) (some (.inl ((shrV .i64 s15.1 7),(s15.2 ++ [(u8w (orI .i64 (andI .i64 s15.1 127) 128))]))))) (some (.inr (s15.1,s15.2)))
def nums_Put_L1 (n:List Int) (s10:Int × List UInt8) (s15:Int × List UInt8):Option ((Int × List UInt8)):=loopX (nums_Put_L1_s n s10) KK s15
theorem b_nums_Put_L1 (d:Nat) {n:List Int} {s10:Int × List UInt8} {s15:Int × List UInt8} {r:(Int × List UInt8) ⊕ ((Int × List UInt8))} (h:nums_Put_L1_s n s10 s15=some r):RunX (bexec (wcalls atab (d+0)) KK 41 WB79_1) 0 (inL [5,7,10,11,12] (st_nums_Put_L1 n s10 s15)) (rx_nums_Put_L1 n s10 r):=by
 unfold nums_Put_L1_s at h
 exact run_by nB WB79_1_ok h (.br 23 (fun _=>.v 28 (.int .u8 ((u8w (orI .i64 (andI .i64 s15.1 127) 128)).toNat:Int)) <| .ob (u8_w _:@Eq (Option AV) (some (.int .u8 (IntKind.u8.wrap (orI .i64 (andI .i64 s15.1 127) 128)))) (some (.int .u8 ((u8w (orI .i64 (andI .i64 s15.1 127) 128)).toNat:Int)))) <| .gd fun q16=>Ap R_B 30 q16 <| E0 [5,7,10,11,12]) fun _=>E0 [5,7,10,11,12])
theorem s_nums_Put_L1 (d:Nat) {n:List Int} {s10:Int × List UInt8} {s15:Int × List UInt8} {r:(Int × List UInt8)} (h:nums_Put_L1 n s10 s15=some r):RunX (bloop (bexec (wcalls atab (d+0)) KK 41 WB79_1) [5,7,10,11,12] KK) 0 (inL [5,7,10,11,12] (st_nums_Put_L1 n s10 s15)) (fin_nums_Put_L1 n s10 r) :=
 loop_of (st:=st_nums_Put_L1 n s10) (fin:=fin_nums_Put_L1 n s10) (step:=nums_Put_L1_s n s10) (fun e=>by (intro h; cases h)) (fun s x h=>b_nums_Put_L1 d h) KK s15 r h
def st_nums_Put_L2 (n:List Int) (s10:Int × List UInt8):List AV × WH:=([(.acc 0 0 1 s10.2.length true),(l_I n),(.int .i64 (n.length:Int)),(.int .i64 s10.1)],[(some (.cells (F_B s10.2) false true))])
def fin_nums_Put_L2 (n:List Int):Unit ⊕ (List UInt8)→Ex × Fast × WH:=fun
 | .inl e=>(.ret,[(4,(.slice none 1 0 0 true))],[])
 | .inr e=>((.exit 0),[(5,(.acc 0 0 1 e.length true))],[(some (.cells (F_B e) false true))])
abbrev rx_nums_Put_L2 (n:List Int):=roundX [5,10,11,12] (st_nums_Put_L2 n) (fin_nums_Put_L2 n)
def nums_Put_L2_s (n:List Int) (s10:Int × List UInt8):Option ((Int × List UInt8) ⊕ (Unit ⊕ (List UInt8))) :=
 cond (decide (s10.1 < (n.length:Int))) ((getI n s10.1).bind fun (x11:Int)=>(nums_Put_J0 x11 s10 n).bind fun (x12:Unit ⊕ Unit)=>cond (isL x12) (some (.inr (.inl ()))) ((nums_Put_L1 n s10 (x11,s10.2)).bind fun (x17:(Int × List UInt8))=>gd (fitsB 1 (x17.2 ++ [(u8w x17.1)]).length) (some (.inl ((IntKind.i64.wrap (s10.1+1)),(x17.2 ++ [(u8w x17.1)])))))) (some (.inr (.inr s10.2)))
def nums_Put_L2 (n:List Int) (s10:Int × List UInt8):Option (Unit ⊕ (List UInt8)):=loopX (nums_Put_L2_s n) KK s10
theorem b_nums_Put_L2 (d:Nat) {n:List Int} {s10:Int × List UInt8} {r:(Int × List UInt8) ⊕ (Unit ⊕ (List UInt8))} (h:nums_Put_L2_s n s10=some r):RunX (bexec (wcalls atab (d+0)) KK 41 WB79_0) 0 (inL [5,10,11,12] (st_nums_Put_L2 n s10)) (rx_nums_Put_L2 n r):=by
 unfold nums_Put_L2_s at h
 exact run_by nB WB79_0_ok h (.br 13 (fun _=>.bd fun x11 q11=>Ix R_I 14 q11 <| .bd fun x12 q12=>.ite (fun hb13=>Jn [5,7,10,11,12] [none,none,none,none,none] [] [] (rwr (il hb13) (s_nums_Put_J0 (d+0) q12)) <| E0 [4]) fun hb13=>Jn [5,7,10,11,12] [none,none,none,none,none] [] [] (rwr (ir0 hb13) (s_nums_Put_J0 (d+0) q12)) <| .bd fun x17 q17=>Lp [none,none,none,none,none] [] [] (s_nums_Put_L1 (d+0) q17) <| .v 35 (.int .u8 ((u8w x17.1).toNat:Int)) <| .ob (u8_w _:@Eq (Option AV) (some (.int .u8 (IntKind.u8.wrap x17.1))) (some (.int .u8 ((u8w x17.1).toNat:Int)))) <| .gd fun q18=>Ap R_B 37 q18 <| E0 [5,10,11,12]) fun _=>E0 [5])
theorem s_nums_Put_L2 (d:Nat) {n:List Int} {s10:Int × List UInt8} {r:Unit ⊕ (List UInt8)} (h:nums_Put_L2 n s10=some r):RunX (bloop (bexec (wcalls atab (d+0)) KK 41 WB79_0) [5,10,11,12] KK) 0 (inL [5,10,11,12] (st_nums_Put_L2 n s10)) (fin_nums_Put_L2 n r) :=
 loop_of (st:=st_nums_Put_L2 n) (fin:=fin_nums_Put_L2 n) (step:=nums_Put_L2_s n) (fun e=>by rcases e with e | e <;> (intro h; cases h)) (fun s x h=>b_nums_Put_L2 d h) KK s10 r h
def nums_Put (p_b:List UInt8) (n:List Int):Option (List UInt8) :=
 gd (fitsB 1 p_b.length) ((nums_Put_L2 n (0,p_b)).bind fun (x19:Unit ⊕ (List UInt8))=>cond (isL x19) (some []) (some (getR x19)))
def out_nums_Put (p_b:List UInt8) (n:List Int) (r:List UInt8):AV × WH:=((l_B r),[])
theorem s_nums_Put (d:Nat) {p_b:List UInt8} {n:List Int} {r:List UInt8} (h:nums_Put p_b n=some r):Spec (wcalls atab (d+2)) 79 [(l_B p_b),(l_I n)] [] (out_nums_Put p_b n r).1 (out_nums_Put p_b n r).2:=by
 unfold nums_Put at h
 exact spec_by (wB_ok _) AF79 h (.gd fun q1=>.ob q1 <| .bd fun x19 q19=>.ite (fun hb20=>Lp [none,none,none,none] [] [] (rwr (il hb20) (s_nums_Put_L2 (d+1) q19)) <| Fn Fo [] none) fun hb20=>Lp [none,none,none,none] [] [] (rwr (ir0 hb20) (s_nums_Put_L2 (d+1) q19)) <| Fn Fo [] none)
abbrev in_nums_Put_3_J0 (x11:Int) (s10:Int × List UInt8) (n:List Int):Fast × WH:=([(5,(.acc 0 0 1 s10.2.length true)),(7,(.int .i64 x11)),(10,(l_I n)),(11,(.int .i64 (n.length:Int))),(12,(.int .i64 s10.1))],[(some (.cells (F_B s10.2) false true))])
def fin_nums_Put_3_J0 (x11:Int) (s10:Int × List UInt8) (n:List Int):Unit ⊕ Unit→Ex × Fast × WH:=fun
 | .inl e=>(.ret,[(4,(.slice none 1 0 0 true))],[])
 | .inr e=>(.normal,[(5,(.acc 0 0 1 s10.2.length true)),(7,(.int .i64 x11)),(10,(l_I n)),(11,(.int .i64 (n.length:Int))),(12,(.int .i64 s10.1))],[(some (.cells (F_B s10.2) false true))])
def nums_Put_3_J0 (x11:Int) (s10:Int × List UInt8) (n:List Int):Option (Unit ⊕ Unit) :=
 cond (decide (x11 < 0)) (some (.inl ())) (cond (decide (x11 > 4611686018427387903)) (some (.inl ())) (some (.inr ())))
theorem s_nums_Put_3_J0 (d:Nat) {x11:Int} {s10:Int × List UInt8} {n:List Int} {r:Unit ⊕ Unit} (h:nums_Put_3_J0 x11 s10 n=some r):RunX (bexec (wcalls atab (d+0)) KK 41 WJ79_bbabklbbakba) 0 (in_nums_Put_3_J0 x11 s10 n) (fin_nums_Put_3_J0 x11 s10 n r):=by
 unfold nums_Put_3_J0 at h
 exact run_by nB WJ79_bbabklbbakba_ok h (.br 18 (fun _=>E0 [4]) fun _=>.br 21 (fun _=>E0 [4]) fun _=>E0 [5,7,10,11,12])
def st_nums_Put_3_L1 (n:List Int) (s10:Int × List UInt8) (s15:Int × List UInt8):List AV × WH:=([(.acc 0 0 1 s15.2.length true),(.int .i64 s15.1),(l_I n),(.int .i64 (n.length:Int)),(.int .i64 s10.1)],[(some (.cells (F_B s15.2) false true))])
def fin_nums_Put_3_L1 (n:List Int) (s10:Int × List UInt8):(Int × List UInt8)→Ex × Fast × WH:=fun e=>((.exit 2),[(5,(.acc 0 0 1 e.2.length true)),(7,(.int .i64 e.1)),(10,(l_I n)),(11,(.int .i64 (n.length:Int))),(12,(.int .i64 s10.1))],[(some (.cells (F_B e.2) false true))])
abbrev rx_nums_Put_3_L1 (n:List Int) (s10:Int × List UInt8):=roundX [5,7,10,11,12] (st_nums_Put_3_L1 n s10) (fin_nums_Put_3_L1 n s10)
def nums_Put_3_L1_s (n:List Int) (s10:Int × List UInt8) (s15:Int × List UInt8):Option ((Int × List UInt8) ⊕ ((Int × List UInt8))) :=
 cond (decide (s15.1 > 127)) (gd (fitsB 1 (s15.2 ++ [(u8w (orI .i64 (andI .i64 s15.1 127) 128))]).length) (some (.inl ((shrV .i64 s15.1 7),(s15.2 ++ [(u8w (orI .i64 (andI .i64 s15.1 127) 128))]))))) (some (.inr (s15.1,s15.2)))
def nums_Put_3_L1 (n:List Int) (s10:Int × List UInt8) (s15:Int × List UInt8):Option ((Int × List UInt8)):=loopX (nums_Put_3_L1_s n s10) KK s15
theorem b_nums_Put_3_L1 (d:Nat) {n:List Int} {s10:Int × List UInt8} {s15:Int × List UInt8} {r:(Int × List UInt8) ⊕ ((Int × List UInt8))} (h:nums_Put_3_L1_s n s10 s15=some r):RunX (bexec (wcalls atab (d+0)) KK 41 WB79_1) 0 (inL [5,7,10,11,12] (st_nums_Put_3_L1 n s10 s15)) (rx_nums_Put_3_L1 n s10 r):=by
 unfold nums_Put_3_L1_s at h
 exact run_by nB WB79_1_ok h (.br 23 (fun _=>.v 28 (.int .u8 ((u8w (orI .i64 (andI .i64 s15.1 127) 128)).toNat:Int)) <| .ob (u8_w _:@Eq (Option AV) (some (.int .u8 (IntKind.u8.wrap (orI .i64 (andI .i64 s15.1 127) 128)))) (some (.int .u8 ((u8w (orI .i64 (andI .i64 s15.1 127) 128)).toNat:Int)))) <| .gd fun q16=>Ap R_B 30 q16 <| E0 [5,7,10,11,12]) fun _=>E0 [5,7,10,11,12])
theorem s_nums_Put_3_L1 (d:Nat) {n:List Int} {s10:Int × List UInt8} {s15:Int × List UInt8} {r:(Int × List UInt8)} (h:nums_Put_3_L1 n s10 s15=some r):RunX (bloop (bexec (wcalls atab (d+0)) KK 41 WB79_1) [5,7,10,11,12] KK) 0 (inL [5,7,10,11,12] (st_nums_Put_3_L1 n s10 s15)) (fin_nums_Put_3_L1 n s10 r) :=
 loop_of (st:=st_nums_Put_3_L1 n s10) (fin:=fin_nums_Put_3_L1 n s10) (step:=nums_Put_3_L1_s n s10) (fun e=>by (intro h; cases h)) (fun s x h=>b_nums_Put_3_L1 d h) KK s15 r h
def st_nums_Put_3_L2 (n:List Int) (s10:Int × List UInt8):List AV × WH:=([(.acc 0 0 1 s10.2.length true),(l_I n),(.int .i64 (n.length:Int)),(.int .i64 s10.1)],[(some (.cells (F_B s10.2) false true))])
def fin_nums_Put_3_L2 (n:List Int):Unit ⊕ (List UInt8)→Ex × Fast × WH:=fun
 | .inl e=>(.ret,[(4,(.slice none 1 0 0 true))],[])
 | .inr e=>((.exit 0),[(5,(.acc 0 0 1 e.length true))],[(some (.cells (F_B e) false true))])
abbrev rx_nums_Put_3_L2 (n:List Int):=roundX [5,10,11,12] (st_nums_Put_3_L2 n) (fin_nums_Put_3_L2 n)
def nums_Put_3_L2_s (n:List Int) (s10:Int × List UInt8):Option ((Int × List UInt8) ⊕ (Unit ⊕ (List UInt8))) :=
 cond (decide (s10.1 < (n.length:Int))) ((getI n s10.1).bind fun (x11:Int)=>(nums_Put_3_J0 x11 s10 n).bind fun (x12:Unit ⊕ Unit)=>cond (isL x12) (some (.inr (.inl ()))) ((nums_Put_3_L1 n s10 (x11,s10.2)).bind fun (x17:(Int × List UInt8))=>gd (fitsB 1 (x17.2 ++ [(u8w x17.1)]).length) (some (.inl ((IntKind.i64.wrap (s10.1+1)),(x17.2 ++ [(u8w x17.1)])))))) (some (.inr (.inr s10.2)))
def nums_Put_3_L2 (n:List Int) (s10:Int × List UInt8):Option (Unit ⊕ (List UInt8)):=loopX (nums_Put_3_L2_s n) KK s10
theorem b_nums_Put_3_L2 (d:Nat) {n:List Int} {s10:Int × List UInt8} {r:(Int × List UInt8) ⊕ (Unit ⊕ (List UInt8))} (h:nums_Put_3_L2_s n s10=some r):RunX (bexec (wcalls atab (d+0)) KK 41 WB79_0) 0 (inL [5,10,11,12] (st_nums_Put_3_L2 n s10)) (rx_nums_Put_3_L2 n r):=by
 unfold nums_Put_3_L2_s at h
 exact run_by nB WB79_0_ok h (.br 13 (fun _=>.bd fun x11 q11=>Ix R_I 14 q11 <| .bd fun x12 q12=>.ite (fun hb13=>Jn [5,7,10,11,12] [none,none,none,none,none] [] [] (rwr (il hb13) (s_nums_Put_3_J0 (d+0) q12)) <| E0 [4]) fun hb13=>Jn [5,7,10,11,12] [none,none,none,none,none] [] [] (rwr (ir0 hb13) (s_nums_Put_3_J0 (d+0) q12)) <| .bd fun x17 q17=>Lp [none,none,none,none,none] [] [] (s_nums_Put_3_L1 (d+0) q17) <| .v 35 (.int .u8 ((u8w x17.1).toNat:Int)) <| .ob (u8_w _:@Eq (Option AV) (some (.int .u8 (IntKind.u8.wrap x17.1))) (some (.int .u8 ((u8w x17.1).toNat:Int)))) <| .gd fun q18=>Ap R_B 37 q18 <| E0 [5,10,11,12]) fun _=>E0 [5])
theorem s_nums_Put_3_L2 (d:Nat) {n:List Int} {s10:Int × List UInt8} {r:Unit ⊕ (List UInt8)} (h:nums_Put_3_L2 n s10=some r):RunX (bloop (bexec (wcalls atab (d+0)) KK 41 WB79_0) [5,10,11,12] KK) 0 (inL [5,10,11,12] (st_nums_Put_3_L2 n s10)) (fin_nums_Put_3_L2 n r) :=
 loop_of (st:=st_nums_Put_3_L2 n) (fin:=fin_nums_Put_3_L2 n) (step:=nums_Put_3_L2_s n) (fun e=>by rcases e with e | e <;> (intro h; cases h)) (fun s x h=>b_nums_Put_3_L2 d h) KK s10 r h
def nums_Put_3 (p_b:List UInt8) (n:List Int):Option (List UInt8) :=
 gd (fitsB 1 p_b.length) ((nums_Put_3_L2 n (0,p_b)).bind fun (x19:Unit ⊕ (List UInt8))=>cond (isL x19) (some []) (some (getR x19)))
def out_nums_Put_3 (p_b:List UInt8) (n:List Int) (r:List UInt8):AV × WH:=((.acc 0 0 1 r.length true),[(some (.cells (F_B r) false true))])
theorem s_nums_Put_3 (d:Nat) {p_b:List UInt8} {n:List Int} {r:List UInt8} (h:nums_Put_3 p_b n=some r):Spec (wcalls atab (d+2)) 79 [(l_B p_b),(l_I n)] [] (out_nums_Put_3 p_b n r).1 (out_nums_Put_3 p_b n r).2:=by
 unfold nums_Put_3 at h
 exact spec_by (wB_ok _) AF79 h (.gd fun q1=>.ob q1 <| .bd fun x19 q19=>.ite (fun hb20=>Lp [none,none,none,none] [] [] (rwr (il hb20) (s_nums_Put_3_L2 (d+1) q19)) <| .leafq (.fin (some true) [] none) _ (fun r=>@Eq AV (.acc 0 0 1 0 true) (out_nums_Put_3 p_b n r).1∧@Eq WH [(some (.cells (F_B []) false true))] (out_nums_Put_3 p_b n r).2) (by show _∧_; refine ⟨?_, ?_⟩ <;> first | rfl | (simp only [out_nums_Put_3,List.length_set,List.length_append,List.length_replicate,List.length_cons,List.length_nil,List.length_take,List.length_drop,Nat.add_zero,Nat.zero_add]; done) | simp [out_nums_Put_3])) fun hb20=>Lp [none,none,none,none] [] [] (rwr (ir0 hb20) (s_nums_Put_3_L2 (d+1) q19)) <| Fn Tw [] none)
def st_nums_Text_L0 (p_s:List (List UInt8)) (s5:Int × List UInt8):List AV × WH:=([(.acc 0 0 1 s5.2.length true),(l_S p_s),(.int .i64 (p_s.length:Int)),(.int .i64 s5.1)],[(some (.cells (F_B s5.2) false true))])
def fin_nums_Text_L0 (p_s:List (List UInt8)):(List UInt8)→Ex × Fast × WH:=fun e=>((.exit 0),[(5,(.acc 0 0 1 e.length true))],[(some (.cells (F_B e) false true))])
abbrev rx_nums_Text_L0 (p_s:List (List UInt8)):=roundX [5,10,11,12] (st_nums_Text_L0 p_s) (fin_nums_Text_L0 p_s)
def nums_Text_L0_s (p_s:List (List UInt8)) (s5:Int × List UInt8):Option ((Int × List UInt8) ⊕ ((List UInt8))) :=
 cond (decide (s5.1 < (p_s.length:Int))) ((getI p_s s5.1).bind fun (x6:List UInt8)=>(nums_Put_3 s5.2 ([(x6.length:Int)])).bind fun (x7:List UInt8)=>gd (fitsB 1 (x7 ++ x6).length) (some (.inl ((IntKind.i64.wrap (s5.1+1)),(x7 ++ x6))))) (some (.inr s5.2))
def nums_Text_L0 (p_s:List (List UInt8)) (s5:Int × List UInt8):Option ((List UInt8)):=loopX (nums_Text_L0_s p_s) KK s5
theorem b_nums_Text_L0 (d:Nat) {p_s:List (List UInt8)} {s5:Int × List UInt8} {r:(Int × List UInt8) ⊕ ((List UInt8))} (h:nums_Text_L0_s p_s s5=some r):RunX (bexec (wcalls atab (d+2)) KK 26 WB78_0) 0 (inL [5,10,11,12] (st_nums_Text_L0 p_s s5)) (rx_nums_Text_L0 p_s r):=by
 unfold nums_Text_L0_s at h
 exact run_by nB WB78_0_ok h (.br 13 (fun _=>.bd fun x6 q6=>Ix R_S 14 q6 <| .bd fun x7 q7=>Cl [] Fo [] (s_nums_Put_3 (d+0) q7) <| .gd fun q8=>Ap R_B 22 q8 <| E0 [5,10,11,12]) fun _=>E0 [5])
theorem s_nums_Text_L0 (d:Nat) {p_s:List (List UInt8)} {s5:Int × List UInt8} {r:(List UInt8)} (h:nums_Text_L0 p_s s5=some r):RunX (bloop (bexec (wcalls atab (d+2)) KK 26 WB78_0) [5,10,11,12] KK) 0 (inL [5,10,11,12] (st_nums_Text_L0 p_s s5)) (fin_nums_Text_L0 p_s r) :=
 loop_of (st:=st_nums_Text_L0 p_s) (fin:=fin_nums_Text_L0 p_s) (step:=nums_Text_L0_s p_s) (fun e=>by (intro h; cases h)) (fun s x h=>b_nums_Text_L0 d h) KK s5 r h
def nums_Text (p_b:List UInt8) (p_s:List (List UInt8)):Option (List UInt8) :=
 gd (fitsB 1 p_b.length) ((nums_Text_L0 p_s (0,p_b)).bind fun (x9:(List UInt8))=>some x9)
def out_nums_Text (p_b:List UInt8) (p_s:List (List UInt8)) (r:List UInt8):AV × WH:=((l_B r),[])
theorem s_nums_Text (d:Nat) {p_b:List UInt8} {p_s:List (List UInt8)} {r:List UInt8} (h:nums_Text p_b p_s=some r):Spec (wcalls atab (d+3)) 78 [(l_B p_b),(l_S p_s)] [] (out_nums_Text p_b p_s r).1 (out_nums_Text p_b p_s r).2:=by
 unfold nums_Text at h
 exact spec_by (wB_ok _) AF78 h (.gd fun q1=>.ob q1 <| .bd fun x9 q9=>Lp [none,none,none,none] [] [] (s_nums_Text_L0 (d+0) q9) <| Fn Fo [] none)
def codec_LayReq (p_b:List UInt8) (p_r:api_Req):Option (List UInt8) :=
 (codec_RightReq p_r).bind fun (x1:Bool)=>cond (!x1) (some []) ((nums_Put p_b ([p_r.Client,p_r.Seq,p_r.Op.Kind])).bind fun (x2:List UInt8)=>(nums_Text x2 ([p_r.Op.Key,p_r.Op.Value,p_r.Op.Old])).bind fun (x3:List UInt8)=>some x3)
def out_codec_LayReq (p_b:List UInt8) (p_r:api_Req) (r:List UInt8):AV × WH:=((l_B r),[])
theorem s_codec_LayReq (d:Nat) {p_b:List UInt8} {p_r:api_Req} {r:List UInt8} (h:codec_LayReq p_b p_r=some r):Spec (wcalls atab (d+4)) 18 [(l_B p_b),(.agg (e_api_Req p_r))] [] (out_codec_LayReq p_b p_r r).1 (out_codec_LayReq p_b p_r r).2:=by
 unfold codec_LayReq at h
 exact spec_by nB AF18 h (.bd fun x1 q1=>Cb0 (s_codec_RightReq (d+1) q1) <| .br 7 (fun _=>Fn Fo [] none) fun _=>.bd fun x2 q2=>Cl [] Fo [] (s_nums_Put (d+1) q2) <| .bd fun x3 q3=>Cl [] Fo [] (s_nums_Text (d+0) q3) <| Fn Fo [] none)
def codec_RightAnswer (a:api_Answer):Option (Bool) :=
 cond (decide (a.Why ≥ 0)) (cond (decide (a.Why≤11)) (some (decide ((a.Value.length:Int)≤16))) (some false)) (some false)
def out_codec_RightAnswer (a:api_Answer) (r:Bool):AV × WH:=((.bool r),[])
theorem s_codec_RightAnswer (d:Nat) {a:api_Answer} {r:Bool} (h:codec_RightAnswer a=some r):Spec (wcalls atab (d+1)) 23 [(.agg (e_api_Answer a))] [] (out_codec_RightAnswer a r).1 (out_codec_RightAnswer a r).2:=by
 unfold codec_RightAnswer at h
 exact spec_by nB AF23 h (.br 6 (fun _=>.br 11 (fun _=>Fn Fo [] none) fun _=>Fn Fo [] none) fun _=>Fn Fo [] none)
def codec_LayAnswer (p_b:List UInt8) (a:api_Answer):Option (List UInt8) :=
 (codec_RightAnswer a).bind fun (x1:Bool)=>cond (!x1) (some []) ((nums_Put p_b [a.Why]).bind fun (x2:List UInt8)=>(nums_Text x2 [a.Value]).bind fun (x3:List UInt8)=>some x3)
def out_codec_LayAnswer (p_b:List UInt8) (a:api_Answer) (r:List UInt8):AV × WH:=((l_B r),[])
theorem s_codec_LayAnswer (d:Nat) {p_b:List UInt8} {a:api_Answer} {r:List UInt8} (h:codec_LayAnswer p_b a=some r):Spec (wcalls atab (d+4)) 19 [(l_B p_b),(.agg (e_api_Answer a))] [] (out_codec_LayAnswer p_b a r).1 (out_codec_LayAnswer p_b a r).2:=by
 unfold codec_LayAnswer at h
 exact spec_by nB AF19 h (.bd fun x1 q1=>Cb0 (s_codec_RightAnswer (d+2) q1) <| .br 7 (fun _=>Fn Fo [] none) fun _=>.bd fun x2 q2=>Cl [] Fo [] (s_nums_Put (d+1) q2) <| .bd fun x3 q3=>Cl [] Fo [] (s_nums_Text (d+0) q3) <| Fn Fo [] none)
def codec_zero (p_x:api_Image):Option (Bool) :=
 cond (p_x.Shard == 0) (cond (p_x.Epoch == 0) (cond ((p_x.Pairs.length:Int) == 0) (some ((p_x.Sess.length:Int) == 0)) (some false)) (some false)) (some false)
def out_codec_zero (p_x:api_Image) (r:Bool):AV × WH:=((.bool r),[])
theorem s_codec_zero (d:Nat) {p_x:api_Image} {r:Bool} (h:codec_zero p_x=some r):Spec (wcalls atab (d+1)) 83 [(.agg (e_api_Image p_x))] [] (out_codec_zero p_x r).1 (out_codec_zero p_x r).2:=by
 unfold codec_zero at h
 exact spec_by nB AF83 h (.br 6 (fun _=>.br 11 (fun _=>.br 17 (fun _=>Fn Fo [] none) fun _=>Fn Fo [] none) fun _=>Fn Fo [] none) fun _=>Fn Fo [] none)
def cmp_isNaN_string (a0:List UInt8):Option (Bool) :=
 some (!(a0 == a0))
def out_cmp_isNaN_string (a0:List UInt8) (r:Bool):AV × WH:=((.bool r),[])
theorem s_cmp_isNaN_string (d:Nat) {a0:List UInt8} {r:Bool} (h:cmp_isNaN_string a0=some r):Spec (wcalls atab (d+1)) 172 [(.str a0)] [] (out_cmp_isNaN_string a0 r).1 (out_cmp_isNaN_string a0 r).2:=by
 unfold cmp_isNaN_string at h
 exact spec_by nB AF172 h (Fn Fo [] none)
def cmp_Compare_string (a0:List UInt8) (a1:List UInt8):Option (Int) :=
 (cmp_isNaN_string a0).bind fun (x1:Bool)=>(cmp_isNaN_string a1).bind fun (x2:Bool)=>cond x1 (cond x2 (some 0) (some (-1))) (cond x2 (some 1) (cond (Op.bytesLess a0 a1) (some (-1)) (cond (!(Op.bytesLess a0 a1 || a0 == a1)) (some 1) (some 0))))
def out_cmp_Compare_string (a0:List UInt8) (a1:List UInt8) (r:Int):AV × WH:=((.int .i64 r),[])
theorem s_cmp_Compare_string (d:Nat) {a0:List UInt8} {a1:List UInt8} {r:Int} (h:cmp_Compare_string a0 a1=some r):Spec (wcalls atab (d+2)) 169 [(.str a0),(.str a1)] [] (out_cmp_Compare_string a0 a1 r).1 (out_cmp_Compare_string a0 a1 r).2:=by
 unfold cmp_Compare_string at h
 exact spec_by nB AF169 h (.bd fun x1 q1=>Cb0 (s_cmp_isNaN_string (d+0) q1) <| .bd fun x2 q2=>Cb0 (s_cmp_isNaN_string (d+0) q2) <| .br 11 (fun _=>.br 12 (fun _=>Fn Fo [] none) fun _=>Fn Fo [] none) fun _=>.br 13 (fun _=>Fn Fo [] none) fun _=>.br 16 (fun _=>Fn Fo [] none) fun _=>.br 19 (fun _=>Fn Fo [] none) fun _=>Fn Fo [] none)
def table_Table_find_1 (p:api_Pair) (key:List UInt8):Option (Int) :=
 (cmp_Compare_string p.Key key).bind fun (x1:Int)=>some x1
def out_table_Table_find_1 (p:api_Pair) (key:List UInt8) (r:Int):AV × WH:=((.int .i64 r),[])
theorem s_table_Table_find_1 (d:Nat) {p:api_Pair} {key:List UInt8} {r:Int} (h:table_Table_find_1 p key=some r):Spec (wcalls atab (d+3)) 168 [(.agg (e_api_Pair p)),(.str key)] [] (out_table_Table_find_1 p key r).1 (out_table_Table_find_1 p key r).2:=by
 unfold table_Table_find_1 at h
 exact spec_by nB AF168 h (.bd fun x1 q1=>Cb0 (s_cmp_Compare_string (d+0) q1) <| Fn Fo [] none)
def st_slices_BinarySearchFunc_api_Pair_api_Pair_string_L0 (a0:List api_Pair) (a1:List UInt8) (s3:Int × Int):List AV × WH:=([(l_api_Pair a0),(.str a1),(.func 168 []),(.int .i64 (a0.length:Int)),(.int .i64 s3.1),(.int .i64 s3.2)],[])
def fin_slices_BinarySearchFunc_api_Pair_api_Pair_string_L0 (a0:List api_Pair) (a1:List UInt8):Int→Ex × Fast × WH:=fun e=>((.exit 0),[(0,(l_api_Pair a0)),(1,(.str a1)),(2,(.func 168 [])),(8,(.int .i64 (a0.length:Int))),(9,(.int .i64 e))],[])
abbrev rx_slices_BinarySearchFunc_api_Pair_api_Pair_string_L0 (a0:List api_Pair) (a1:List UInt8):=roundX [0,1,2,8,9,10] (st_slices_BinarySearchFunc_api_Pair_api_Pair_string_L0 a0 a1) (fin_slices_BinarySearchFunc_api_Pair_api_Pair_string_L0 a0 a1)
def slices_BinarySearchFunc_api_Pair_api_Pair_string_L0_s (a0:List api_Pair) (a1:List UInt8) (s3:Int × Int):Option ((Int × Int) ⊕ (Int)) :=
 cond (decide (s3.1 < s3.2)) ((getI a0 (IntKind.i64.wrap (shrV .u64 (IntKind.u64.wrap (IntKind.i64.wrap (s3.1+s3.2))) 1))).bind fun (x4:api_Pair)=>(table_Table_find_1 x4 a1).bind fun (x5:Int)=>cond (decide (x5 < 0)) (some (.inl ((IntKind.i64.wrap ((IntKind.i64.wrap (shrV .u64 (IntKind.u64.wrap (IntKind.i64.wrap (s3.1+s3.2))) 1))+1)),s3.2))) (some (.inl (s3.1,(IntKind.i64.wrap (shrV .u64 (IntKind.u64.wrap (IntKind.i64.wrap (s3.1+s3.2))) 1)))))) (some (.inr s3.1))
def slices_BinarySearchFunc_api_Pair_api_Pair_string_L0 (a0:List api_Pair) (a1:List UInt8) (s3:Int × Int):Option (Int):=loopX (slices_BinarySearchFunc_api_Pair_api_Pair_string_L0_s a0 a1) KK s3
theorem b_slices_BinarySearchFunc_api_Pair_api_Pair_string_L0 (d:Nat) {a0:List api_Pair} {a1:List UInt8} {s3:Int × Int} {r:(Int × Int) ⊕ (Int)} (h:slices_BinarySearchFunc_api_Pair_api_Pair_string_L0_s a0 a1 s3=some r):RunX (bexec (wcalls atab (d+3)) KK 49 WB167_0) 0 (inL [0,1,2,8,9,10] (st_slices_BinarySearchFunc_api_Pair_api_Pair_string_L0 a0 a1 s3)) (rx_slices_BinarySearchFunc_api_Pair_api_Pair_string_L0 a0 a1 r):=by
 unfold slices_BinarySearchFunc_api_Pair_api_Pair_string_L0_s at h
 exact run_by nB WB167_0_ok h (.br 17 (fun _=>.bd fun x4 q4=>Ix R_api_Pair 27 q4 <| .bd fun x5 q5=>Cb0 (s_table_Table_find_1 (d+0) q5) <| .br 31 (fun _=>E1 [0,1,2,8,9,10] [none,none,none,none,none,none] [] [.slice none 2 0 0 true,.undef,.undef,.undef,.undef,.undef]) fun _=>E1 [0,1,2,8,9,10] [none,none,none,none,none,none] [] [.slice none 2 0 0 true,.undef,.undef,.undef,.undef,.undef]) fun _=>E1 [0,1,2,8,9] [none,none,none,none,none] [] [.slice none 2 0 0 true,.undef,.undef,.undef,.undef])
theorem s_slices_BinarySearchFunc_api_Pair_api_Pair_string_L0 (d:Nat) {a0:List api_Pair} {a1:List UInt8} {s3:Int × Int} {r:Int} (h:slices_BinarySearchFunc_api_Pair_api_Pair_string_L0 a0 a1 s3=some r):RunX (bloop (bexec (wcalls atab (d+3)) KK 49 WB167_0) [0,1,2,8,9,10] KK) 0 (inL [0,1,2,8,9,10] (st_slices_BinarySearchFunc_api_Pair_api_Pair_string_L0 a0 a1 s3)) (fin_slices_BinarySearchFunc_api_Pair_api_Pair_string_L0 a0 a1 r) :=
 loop_of (st:=st_slices_BinarySearchFunc_api_Pair_api_Pair_string_L0 a0 a1) (fin:=fin_slices_BinarySearchFunc_api_Pair_api_Pair_string_L0 a0 a1) (step:=slices_BinarySearchFunc_api_Pair_api_Pair_string_L0_s a0 a1) (fun e=>by (intro h; cases h)) (fun s x h=>b_slices_BinarySearchFunc_api_Pair_api_Pair_string_L0 d h) KK s3 r h
def slices_BinarySearchFunc_api_Pair_api_Pair_string (a0:List api_Pair) (a1:List UInt8):Option (Int × Bool) :=
 (slices_BinarySearchFunc_api_Pair_api_Pair_string_L0 a0 a1 (0,(a0.length:Int))).bind fun (x6:Int)=>cond (decide (x6 < (a0.length:Int))) ((getI a0 x6).bind fun (x7:api_Pair)=>(table_Table_find_1 x7 a1).bind fun (x8:Int)=>some (x6,(x8 == 0))) (some (x6,false))
def out_slices_BinarySearchFunc_api_Pair_api_Pair_string (a0:List api_Pair) (a1:List UInt8) (r:Int × Bool):AV × WH:=((.tuple [(.int .i64 r.1),(.bool r.2)]),[])
theorem s_slices_BinarySearchFunc_api_Pair_api_Pair_string (d:Nat) {a0:List api_Pair} {a1:List UInt8} {r:Int × Bool} (h:slices_BinarySearchFunc_api_Pair_api_Pair_string a0 a1=some r):Spec (wcalls atab (d+4)) 167 [(l_api_Pair a0),(.str a1),(.func 168 [])] [] (out_slices_BinarySearchFunc_api_Pair_api_Pair_string a0 a1 r).1 (out_slices_BinarySearchFunc_api_Pair_api_Pair_string a0 a1 r).2:=by
 unfold slices_BinarySearchFunc_api_Pair_api_Pair_string at h
 exact spec_by nB AF167 h (.bd fun x6 q6=>Lp [none,none,none,none,none,none] [] [.slice none 2 0 0 true,.undef,.undef,.undef,.undef,.undef] (s_slices_BinarySearchFunc_api_Pair_api_Pair_string_L0 (d+0) q6) <| .br 39 (fun _=>.bd fun x7 q7=>Ix R_api_Pair 43 q7 <| .bd fun x8 q8=>Cb0 (s_table_Table_find_1 (d+0) q8) <| Fn Fo [] none) fun _=>Fn Fo [] none)
def table_Table_set_2 (k:Int) (value:List UInt8) (p_b1:List api_Pair):Option (List api_Pair) :=
 gd (fitsB 32 p_b1.length) ((getI p_b1 k).bind fun (x2:api_Pair)=>some (p_b1.set k.toNat (⟨x2.Key,value⟩:api_Pair)))
def out_table_Table_set_2 (k:Int) (value:List UInt8) (p_b1:List api_Pair) (r:List api_Pair):AV × WH:=((.tuple []),[(some (.cells [(.acc 2 0 2 r.length true)] false false)),(some (.cells (F_api_Pair p_b1) false true)),(some (.cells (F_api_Pair r) false true))])
theorem s_table_Table_set_2 (d:Nat) {k:Int} {value:List UInt8} {p_b1:List api_Pair} {r:List api_Pair} (h:table_Table_set_2 k value p_b1=some r):Spec (wcalls atab (d+2)) 170 [(.ptr (some (0,0))),(.int .i64 k),(.str value)] [(some (.cells [(.acc 1 0 2 p_b1.length true)] false false)),(some (.cells (F_api_Pair p_b1) false true))] (out_table_Table_set_2 k value p_b1 r).1 (out_table_Table_set_2 k value p_b1 r).2:=by
 unfold table_Table_set_2 at h
 exact spec_by (wB_ok _) AF170 h (.gd fun q1=>.ob q1 <| .st none <| .bd fun x2 q2=>Ia R_api_Pair 20 2 q2 <| .st (some (F_api_Pair (p_b1.set k.toNat (⟨x2.Key,value⟩:api_Pair)))) <| .ob (wr_row (o:=1) R_api_Pair q2 rfl:wrC (F_api_Pair p_b1) (0+k.toNat * 2+1) [(.str value)]=some (F_api_Pair (p_b1.set k.toNat (⟨x2.Key,value⟩:api_Pair)))) <| .leafq (.fin (some false) [] none) _ (fun r=>@Eq AV (.tuple []) (out_table_Table_set_2 k value p_b1 r).1∧@Eq WH [(some (.cells [(.acc 2 0 2 p_b1.length true)] false false)),(some (.cells (F_api_Pair p_b1) false true)),(some (.cells (F_api_Pair (p_b1.set k.toNat (⟨x2.Key,value⟩:api_Pair))) false true))] (out_table_Table_set_2 k value p_b1 r).2) (by show _∧_; (try rw [show AV.list 2 p_b1.length (F_api_Pair (p_b1.set k.toNat (⟨x2.Key,value⟩:api_Pair))) false=l_api_Pair (p_b1.set k.toNat (⟨x2.Key,value⟩:api_Pair)) from by simp only [l_api_Pair,List.length_set]]); refine ⟨?_, ?_⟩ <;> first | rfl | (simp only [out_table_Table_set_2,List.length_set,List.length_append,List.length_replicate,List.length_cons,List.length_nil,List.length_take,List.length_drop,Nat.add_zero,Nat.zero_add]; done) | simp [out_table_Table_set_2]))
def table_Table_cas_2 (o:api_Op) (k:Int) (p_b1:List api_Pair):Option (api_Answer × List api_Pair) :=
 (getI p_b1 k).bind fun (x1:api_Pair)=>cond (!(x1.Value == o.Old)) (some ((⟨6,x1.Value⟩:api_Answer),p_b1)) ((table_Table_set_2 k o.Value p_b1).bind fun (x2:List api_Pair)=>some ((⟨0,([]:List UInt8)⟩:api_Answer),x2))
def out_table_Table_cas_2 (o:api_Op) (k:Int) (p_b1:List api_Pair) (r:api_Answer × List api_Pair):AV × WH:=((.agg (e_api_Answer r.1)),[(some (.cells [(.acc 2 0 2 r.2.length true)] false false)),none,(some (.cells (F_api_Pair r.2) false true))])
theorem s_table_Table_cas_2 (d:Nat) {o:api_Op} {k:Int} {p_b1:List api_Pair} {r:api_Answer × List api_Pair} (h:table_Table_cas_2 o k p_b1=some r):Spec (wcalls atab (d+3)) 165 [(.ptr (some (0,0))),(.agg (e_api_Op o)),(.int .i64 k)] [(some (.cells [(.acc 1 0 2 p_b1.length true)] false false)),(some (.cells (F_api_Pair p_b1) false true))] (out_table_Table_cas_2 o k p_b1 r).1 (out_table_Table_cas_2 o k p_b1 r).2:=by
 unfold table_Table_cas_2 at h
 exact spec_by nB AF165 h (.bd fun x1 q1=>Ia R_api_Pair 13 1 q1 <| Ld R_api_Pair 15 false 1 1 q1 (.str x1.Value) rfl <| .br 19 (fun _=>.st none <| Fn Fo [] Tw) fun _=>.bd fun x2 q2=>Cl0 (s_table_Table_set_2 (d+0) q2) <| .st none <| .kl [1] <| Fn Fo [] Tw)
def table_Table_find_2 (key:List UInt8) (p_b1:List api_Pair):Option (Int × Bool) :=
 (slices_BinarySearchFunc_api_Pair_api_Pair_string p_b1 key).bind fun (x1:Int × Bool)=>some (x1.1,x1.2)
def out_table_Table_find_2 (key:List UInt8) (p_b1:List api_Pair) (r:Int × Bool):AV × WH:=((.tuple [(.int .i64 r.1),(.bool r.2)]),[(some (.cells [(.acc 1 0 2 p_b1.length true)] false false)),(some (.cells (F_api_Pair p_b1) false true))])
theorem s_table_Table_find_2 (d:Nat) {key:List UInt8} {p_b1:List api_Pair} {r:Int × Bool} (h:table_Table_find_2 key p_b1=some r):Spec (wcalls atab (d+5)) 163 [(.ptr (some (0,0))),(.str key)] [(some (.cells [(.acc 1 0 2 p_b1.length true)] false false)),(some (.cells (F_api_Pair p_b1) false true))] (out_table_Table_find_2 key p_b1 r).1 (out_table_Table_find_2 key p_b1 r).2:=by
 unfold table_Table_find_2 at h
 exact spec_by nB AF163 h (.bd fun x1 q1=>Cb [.slice none 2 0 0 true] (s_slices_BinarySearchFunc_api_Pair_api_Pair_string (d+0) q1) <| Fn Fo [] none)
def table_Table_put_2 (o:api_Op) (k:Int) (had:Bool) (p_b1:List api_Pair):Option (api_Answer × List api_Pair) :=
 cond had ((table_Table_set_2 k o.Value p_b1).bind fun (x1:List api_Pair)=>some ((⟨0,([]:List UInt8)⟩:api_Answer),x1)) (cond ((p_b1.length:Int) == 8) (some ((⟨5,([]:List UInt8)⟩:api_Answer),p_b1)) (gd (fitsB 32 p_b1.length) (gd (insB 32 k p_b1.length) (some ((⟨0,([]:List UInt8)⟩:api_Answer),(insL p_b1 k (⟨o.Key,o.Value⟩:api_Pair)))))))
def out_table_Table_put_2 (o:api_Op) (k:Int) (had:Bool) (p_b1:List api_Pair) (r:api_Answer × List api_Pair):AV × WH:=((.agg (e_api_Answer r.1)),[(some (.cells [(.acc 2 0 2 r.2.length true)] false false)),none,(some (.cells (F_api_Pair r.2) false true))])
theorem s_table_Table_put_2 (d:Nat) {o:api_Op} {k:Int} {had:Bool} {p_b1:List api_Pair} {r:api_Answer × List api_Pair} (h:table_Table_put_2 o k had p_b1=some r):Spec (wcalls atab (d+3)) 164 [(.ptr (some (0,0))),(.agg (e_api_Op o)),(.int .i64 k),(.bool had)] [(some (.cells [(.acc 1 0 2 p_b1.length true)] false false)),(some (.cells (F_api_Pair p_b1) false true))] (out_table_Table_put_2 o k had p_b1 r).1 (out_table_Table_put_2 o k had p_b1 r).2:=by
 unfold table_Table_put_2 at h
 exact spec_by (wB_ok _) AF164 h (.br 25 (fun _=>.bd fun x1 q1=>Cl0 (s_table_Table_set_2 (d+0) q1) <| .st none <| .kl [1] <| Fn Fo [] Tw) fun _=>.br 32 (fun _=>.st none <| Fn Fo [] Tw) fun _=>.gd fun q2=>.ob q2 <| .gd fun q3=>.ob (insB_1 q3:(0≤k∧k≤((p_b1.length:Nat):Int))) <| .ap 22 (insL p_b1 k (⟨o.Key,o.Value⟩:api_Pair)).length (F_api_Pair (insL p_b1 k (⟨o.Key,o.Value⟩:api_Pair))) <| .ob (insB_2 (l:=p_b1) q3:p_b1.length+1=(insL p_b1 k (⟨o.Key,o.Value⟩:api_Pair)).length) <| .ob (ins_row R_api_Pair rfl:(F_api_Pair p_b1).take (k.toNat * 2) ++ ([(.str o.Key),(.str o.Value)] ++ (F_api_Pair p_b1).drop (k.toNat * 2))=F_api_Pair (insL p_b1 k (⟨o.Key,o.Value⟩:api_Pair))) <| .ob (insB_3 (l:=p_b1) q3:fitsB 32 (insL p_b1 k (⟨o.Key,o.Value⟩:api_Pair)).length=true) <| .st none <| .st none <| .kl [1] <| Fn Fo [] Tw)
def table_Table_Do_2 (o:api_Op) (p_b1:List api_Pair):Option (api_Answer × List api_Pair) :=
 (table_Right o).bind fun (x1:Bool)=>cond (!x1) (some ((⟨1,([]:List UInt8)⟩:api_Answer),p_b1)) ((table_Table_find_2 o.Key p_b1).bind fun (x2:Int × Bool)=>cond (o.Kind == 2) ((table_Table_put_2 o x2.1 x2.2 p_b1).bind fun (x3:api_Answer × List api_Pair)=>some (x3.1,x3.2)) (cond (!x2.2) (some ((⟨4,([]:List UInt8)⟩:api_Answer),p_b1)) (cond (o.Kind == 1) ((getI p_b1 x2.1).bind fun (x4:api_Pair)=>some ((⟨0,x4.Value⟩:api_Answer),p_b1)) (cond (o.Kind == 4) ((table_Table_cas_2 o x2.1 p_b1).bind fun (x5:api_Answer × List api_Pair)=>some (x5.1,x5.2)) (gd (fitsB 32 p_b1.length) (gd (delB x2.1 (IntKind.i64.wrap (x2.1+1)) p_b1.length) (some ((⟨0,([]:List UInt8)⟩:api_Answer),(delL p_b1 x2.1 (IntKind.i64.wrap (x2.1+1)))))))))))
def out_table_Table_Do_2 (o:api_Op) (p_b1:List api_Pair) (r:api_Answer × List api_Pair):AV × WH:=((.agg (e_api_Answer r.1)),[(some (.cells [(.acc 2 0 2 r.2.length true)] false false)),none,(some (.cells (F_api_Pair r.2) false true))])
theorem s_table_Table_Do_2 (d:Nat) {o:api_Op} {p_b1:List api_Pair} {r:api_Answer × List api_Pair} (h:table_Table_Do_2 o p_b1=some r):Spec (wcalls atab (d+6)) 161 [(.ptr (some (0,0))),(.agg (e_api_Op o))] [(some (.cells [(.acc 1 0 2 p_b1.length true)] false false)),(some (.cells (F_api_Pair p_b1) false true))] (out_table_Table_Do_2 o p_b1 r).1 (out_table_Table_Do_2 o p_b1 r).2:=by
 unfold table_Table_Do_2 at h
 exact spec_by (wB_ok _) AF161 h (.bd fun x1 q1=>Cb0 (s_table_Right (d+4) q1) <| .br 9 (fun _=>.st none <| Fn Fo [] Tw) fun _=>.bd fun x2 q2=>Cl0 (s_table_Table_find_2 (d+0) q2) <| .br 18 (fun _=>.bd fun x3 q3=>Cl0 (s_table_Table_put_2 (d+2) q3) <| .st none <| Fn Fo [] Tw) fun _=>.br 27 (fun _=>.st none <| Fn Fo [] Tw) fun _=>.br 31 (fun _=>.bd fun x4 q4=>Ia R_api_Pair 40 1 q4 <| Ld R_api_Pair 42 false 1 1 q4 (.str x4.Value) rfl <| .st none <| Fn Fo [] Tw) fun _=>.br 44 (fun _=>.bd fun x5 q5=>Cl0 (s_table_Table_cas_2 (d+2) q5) <| .st none <| Fn Fo [] Tw) fun _=>.gd fun q6=>.ob q6 <| .gd fun q7=>.ob (delB_1 q7:(0≤x2.1∧x2.1 < (IntKind.i64.wrap (x2.1+1))∧(IntKind.i64.wrap (x2.1+1))≤((p_b1.length:Nat):Int))) <| .ap 61 (delL p_b1 x2.1 (IntKind.i64.wrap (x2.1+1))).length (F_api_Pair (delL p_b1 x2.1 (IntKind.i64.wrap (x2.1+1)))) <| .ob (delB_2 (l:=p_b1) q7:p_b1.length - ((IntKind.i64.wrap (x2.1+1)).toNat - x2.1.toNat)=(delL p_b1 x2.1 (IntKind.i64.wrap (x2.1+1))).length) <| .ob (del_row R_api_Pair:(F_api_Pair p_b1).take (x2.1.toNat * 2) ++ (F_api_Pair p_b1).drop ((IntKind.i64.wrap (x2.1+1)).toNat * 2)=F_api_Pair (delL p_b1 x2.1 (IntKind.i64.wrap (x2.1+1)))) <| .st none <| .st none <| .kl [1] <| Fn Fo [] Tw)
def st_table_Of_L0 (p:List api_Pair) (s5:Int × List api_Pair):List AV × WH:=([(.ptr (some (0,0))),(.ptr (some (1,0))),(l_api_Pair p),(.int .i64 (p.length:Int)),(.int .i64 s5.1)],[(some (.cells [(.acc 2 0 2 0 true)] false false)),(some (.cells [(.acc 3 0 2 s5.2.length true)] false false)),(some (.cells (F_api_Pair []) false true)),(some (.cells (F_api_Pair s5.2) false true))])
def fin_table_Of_L0 (p:List api_Pair):(List api_Pair)→Ex × Fast × WH:=fun e=>((.exit 0),[(2,(.ptr (some (0,0)))),(3,(.ptr (some (1,0))))],[(some (.cells [(.acc 2 0 2 0 true)] false false)),(some (.cells [(.acc 3 0 2 e.length true)] false false)),(some (.cells (F_api_Pair []) false true)),(some (.cells (F_api_Pair e) false true))])
abbrev rx_table_Of_L0 (p:List api_Pair):=roundX [2,3,6,7,8] (st_table_Of_L0 p) (fin_table_Of_L0 p)
def table_Of_L0_s (p:List api_Pair) (s5:Int × List api_Pair):Option ((Int × List api_Pair) ⊕ ((List api_Pair))) :=
 cond (decide (s5.1 < (p.length:Int))) ((getI p s5.1).bind fun (x6:api_Pair)=>(table_Table_Do_2 (⟨2,x6.Key,x6.Value,([]:List UInt8)⟩:api_Op) s5.2).bind fun (x7:api_Answer × List api_Pair)=>some (.inl ((IntKind.i64.wrap (s5.1+1)),x7.2))) (some (.inr s5.2))
def table_Of_L0 (p:List api_Pair) (s5:Int × List api_Pair):Option ((List api_Pair)):=loopX (table_Of_L0_s p) KK s5
theorem b_table_Of_L0 (d:Nat) {p:List api_Pair} {s5:Int × List api_Pair} {r:(Int × List api_Pair) ⊕ ((List api_Pair))} (h:table_Of_L0_s p s5=some r):RunX (bexec (wcalls atab (d+6)) KK 20 WB153_0) 0 (inL [2,3,6,7,8] (st_table_Of_L0 p s5)) (rx_table_Of_L0 p r):=by
 unfold table_Of_L0_s at h
 exact run_by nB WB153_0_ok h (.br 9 (fun _=>.bd fun x6 q6=>Ix R_api_Pair 10 q6 <| .st none <| .bd fun x7 q7=>Cl0 (s_table_Table_Do_2 (d+0) q7) <| E1 [2,3,6,7,8] [none,none,none,none,none] [] [.undef,.undef,.slice none 2 0 0 true,.undef,.undef]) fun _=>E0 [2,3])
theorem s_table_Of_L0 (d:Nat) {p:List api_Pair} {s5:Int × List api_Pair} {r:(List api_Pair)} (h:table_Of_L0 p s5=some r):RunX (bloop (bexec (wcalls atab (d+6)) KK 20 WB153_0) [2,3,6,7,8] KK) 0 (inL [2,3,6,7,8] (st_table_Of_L0 p s5)) (fin_table_Of_L0 p r) :=
 loop_of (st:=st_table_Of_L0 p) (fin:=fin_table_Of_L0 p) (step:=table_Of_L0_s p) (fun e=>by (intro h; cases h)) (fun s x h=>b_table_Of_L0 d h) KK s5 r h
def table_Of (p:List api_Pair):Option (table_Table) :=
 (table_Of_L0 p (0,[])).bind fun (x8:(List api_Pair))=>some (⟨x8⟩:table_Table)
def out_table_Of (p:List api_Pair) (r:table_Table):AV × WH:=((.agg (e_table_Table r)),[])
theorem s_table_Of (d:Nat) {p:List api_Pair} {r:table_Table} (h:table_Of p=some r):Spec (wcalls atab (d+7)) 153 [(l_api_Pair p)] [] (out_table_Of p r).1 (out_table_Of p r).2:=by
 unfold table_Of at h
 exact spec_by nB AF153 h (.z 2 [.slice none 2 0 0 true] <| .z 3 [.slice none 2 0 0 true] <| .bd fun x8 q8=>Lp [none,none,none,none,none] [Tw,Tw,Tw,Tw] [.undef,.undef,.slice none 2 0 0 true,.undef,.undef] (s_table_Of_L0 (d+0) q8) <| .st none <| Fn Fo [.agg [.slice none 2 0 0 true]] none)
abbrev in_session_Sessions_Note_J0 (p_x:api_Sess) (p_s:session_Sessions):Fast × WH:=([(0,(.ptr (some (0,0)))),(3,(.ptr (some (1,0))))],[(some (.cells (e_session_Sessions p_s) false false)),(some (.cells (e_api_Sess p_x) false false))])
def fin_session_Sessions_Note_J0 (p_x:api_Sess) (p_s:session_Sessions):Unit ⊕ Unit→Ex × Fast × WH:=fun
 | .inl e=>(.ret,[(4,(.bool false))],[(some (.cells (e_session_Sessions p_s) false false))])
 | .inr e=>(.normal,[(0,(.ptr (some (0,0)))),(3,(.ptr (some (1,0))))],[(some (.cells (e_session_Sessions p_s) false false)),(some (.cells (e_api_Sess p_x) false false))])
def session_Sessions_Note_J0 (p_x:api_Sess) (p_s:session_Sessions):Option (Unit ⊕ Unit) :=
 cond (decide (p_x.Client < 0)) (some (.inl ())) (cond (decide (p_x.Client ≥ 4)) (some (.inl ())) (cond (decide (p_x.Seq < 1)) (some (.inl ())) ((getI (p_s.l.toL) p_x.Client).bind fun (x1:api_Sess)=>cond (decide (p_x.Seq≤x1.Seq)) (some (.inl ())) (some (.inr ())))))
theorem s_session_Sessions_Note_J0 (d:Nat) {p_x:api_Sess} {p_s:session_Sessions} {r:Unit ⊕ Unit} (h:session_Sessions_Note_J0 p_x p_s=some r):RunX (bexec (wcalls atab (d+0)) KK 38 WJ162_ba) 1 (in_session_Sessions_Note_J0 p_x p_s) (fin_session_Sessions_Note_J0 p_x p_s r):=by
 unfold session_Sessions_Note_J0 at h
 exact run_by nB WJ162_ba_ok h (.br 8 (fun _=>E0 [4]) fun _=>.br 13 (fun _=>E0 [4]) fun _=>.br 18 (fun _=>E0 [4]) fun _=>.bd fun x1 q1=>.v 26 (.ptr (some (0,0+p_x.Client.toNat * 4))) <| .ob (wP_arr q1 rfl:wP (.idxArr 4 4 (.c (.ptr (some (0,0)))) (.c (.int .i64 p_x.Client)))=some (.ptr (some (0,0+p_x.Client.toNat * 4)))) <| .v 28 (.int .i64 x1.Seq) <| .ob (cP_arr (p:=0) (o:=1) R_api_Sess q1 rfl rfl:cPart false (0+p_x.Client.toNat * 4+1) 1 (e_session_Sessions p_s)=some (.int .i64 x1.Seq)) <| .br 30 (fun _=>E0 [4]) fun _=>E0 [0,3])
def session_Sessions_Note (p_x:api_Sess) (p_s:session_Sessions):Option (Bool × session_Sessions) :=
 (session_Sessions_Note_J0 p_x p_s).bind fun (x2:Unit ⊕ Unit)=>cond (isL x2) (some (false,p_s)) ((getI (p_s.l.toL) p_x.Client).bind fun (x4:api_Sess)=>some (true,(⟨(p_s.l.set p_x.Client p_x)⟩:session_Sessions)))
def out_session_Sessions_Note (p_x:api_Sess) (p_s:session_Sessions) (r:Bool × session_Sessions):AV × WH:=((.bool r.1),[(some (.cells (e_session_Sessions r.2) false false))])
theorem s_session_Sessions_Note (d:Nat) {p_x:api_Sess} {p_s:session_Sessions} {r:Bool × session_Sessions} (h:session_Sessions_Note p_x p_s=some r):Spec (wcalls atab (d+1)) 162 [(.ptr (some (0,0))),(.agg (e_api_Sess p_x))] [(some (.cells (e_session_Sessions p_s) false false))] (out_session_Sessions_Note p_x p_s r).1 (out_session_Sessions_Note p_x p_s r).2:=by
 unfold session_Sessions_Note at h
 exact spec_by nB AF162 h (.sk <| .bd fun x2 q2=>.ite (fun hb3=>Jn [0,3] [none,none] [] [] (rwr (il hb3) (s_session_Sessions_Note_J0 (d+0) q2)) <| Fn Fo [] none) fun hb3=>Jn [0,3] [none,none] [] [] (rwr (ir0 hb3) (s_session_Sessions_Note_J0 (d+0) q2)) <| .bd fun x4 q4=>.v 37 (.ptr (some (0,0+p_x.Client.toNat * 4))) <| .ob (wP_arr q4 rfl:wP (.idxArr 4 4 (.c (.ptr (some (0,0)))) (.c (.int .i64 p_x.Client)))=some (.ptr (some (0,0+p_x.Client.toNat * 4)))) <| .st (some (e_session_Sessions (⟨(p_s.l.set p_x.Client p_x)⟩:session_Sessions))) <| .ob (wr_arr (p:=0) (o:=0) R_api_Sess q4 (A4.toL_set _ q4) rfl (Nat.le_of_ble_eq_true rfl) rfl rfl:wrC (e_session_Sessions p_s) (0+p_x.Client.toNat * 4) [(.int .i64 p_x.Client),(.int .i64 p_x.Seq),(.int .i64 p_x.Answer.Why),(.str p_x.Answer.Value)]=some (e_session_Sessions (⟨(p_s.l.set p_x.Client p_x)⟩:session_Sessions))) <| Fn Fo [] none)
def st_session_OfAll_L0 (l:List api_Sess) (s3:Int × session_Sessions):List AV × WH:=([(.ptr (some (0,0))),(.ptr (some (1,0))),(l_api_Sess l),(.int .i64 (l.length:Int)),(.int .i64 s3.1)],[(some (.cells (e_session_Sessions (⟨(⟨(⟨0,0,(⟨0,([]:List UInt8)⟩:api_Answer)⟩:api_Sess),(⟨0,0,(⟨0,([]:List UInt8)⟩:api_Answer)⟩:api_Sess),(⟨0,0,(⟨0,([]:List UInt8)⟩:api_Answer)⟩:api_Sess),(⟨0,0,(⟨0,([]:List UInt8)⟩:api_Answer)⟩:api_Sess)⟩:A4 api_Sess)⟩:session_Sessions)) false false)),(some (.cells (e_session_Sessions s3.2) false false))])
def fin_session_OfAll_L0 (l:List api_Sess):session_Sessions→Ex × Fast × WH:=fun e=>((.exit 0),[(2,(.ptr (some (0,0)))),(3,(.ptr (some (1,0))))],[(some (.cells (e_session_Sessions (⟨(⟨(⟨0,0,(⟨0,([]:List UInt8)⟩:api_Answer)⟩:api_Sess),(⟨0,0,(⟨0,([]:List UInt8)⟩:api_Answer)⟩:api_Sess),(⟨0,0,(⟨0,([]:List UInt8)⟩:api_Answer)⟩:api_Sess),(⟨0,0,(⟨0,([]:List UInt8)⟩:api_Answer)⟩:api_Sess)⟩:A4 api_Sess)⟩:session_Sessions)) false false)),(some (.cells (e_session_Sessions e) false false))])
abbrev rx_session_OfAll_L0 (l:List api_Sess):=roundX [2,3,6,7,8] (st_session_OfAll_L0 l) (fin_session_OfAll_L0 l)
def session_OfAll_L0_s (l:List api_Sess) (s3:Int × session_Sessions):Option ((Int × session_Sessions) ⊕ (session_Sessions)) :=
 cond (decide (s3.1 < (l.length:Int))) ((getI l s3.1).bind fun (x4:api_Sess)=>(session_Sessions_Note x4 s3.2).bind fun (x5:Bool × session_Sessions)=>some (.inl ((IntKind.i64.wrap (s3.1+1)),x5.2))) (some (.inr s3.2))
def session_OfAll_L0 (l:List api_Sess) (s3:Int × session_Sessions):Option (session_Sessions):=loopX (session_OfAll_L0_s l) KK s3
theorem b_session_OfAll_L0 (d:Nat) {l:List api_Sess} {s3:Int × session_Sessions} {r:(Int × session_Sessions) ⊕ (session_Sessions)} (h:session_OfAll_L0_s l s3=some r):RunX (bexec (wcalls atab (d+1)) KK 16 WB154_0) 0 (inL [2,3,6,7,8] (st_session_OfAll_L0 l s3)) (rx_session_OfAll_L0 l r):=by
 unfold session_OfAll_L0_s at h
 exact run_by nB WB154_0_ok h (.br 9 (fun _=>.bd fun x4 q4=>Ix R_api_Sess 10 q4 <| .st none <| .bd fun x5 q5=>Cl [] Fo [] (s_session_Sessions_Note (d+0) q5) <| E1 [2,3,6,7,8] [none,none,none,none,none] [] [.undef,.undef,.slice none 4 0 0 true,.undef,.undef]) fun _=>E0 [2,3])
theorem s_session_OfAll_L0 (d:Nat) {l:List api_Sess} {s3:Int × session_Sessions} {r:session_Sessions} (h:session_OfAll_L0 l s3=some r):RunX (bloop (bexec (wcalls atab (d+1)) KK 16 WB154_0) [2,3,6,7,8] KK) 0 (inL [2,3,6,7,8] (st_session_OfAll_L0 l s3)) (fin_session_OfAll_L0 l r) :=
 loop_of (st:=st_session_OfAll_L0 l) (fin:=fin_session_OfAll_L0 l) (step:=session_OfAll_L0_s l) (fun e=>by (intro h; cases h)) (fun s x h=>b_session_OfAll_L0 d h) KK s3 r h
def session_OfAll (l:List api_Sess):Option (session_Sessions) :=
 (session_OfAll_L0 l (0,(⟨(⟨(⟨0,0,(⟨0,([]:List UInt8)⟩:api_Answer)⟩:api_Sess),(⟨0,0,(⟨0,([]:List UInt8)⟩:api_Answer)⟩:api_Sess),(⟨0,0,(⟨0,([]:List UInt8)⟩:api_Answer)⟩:api_Sess),(⟨0,0,(⟨0,([]:List UInt8)⟩:api_Answer)⟩:api_Sess)⟩:A4 api_Sess)⟩:session_Sessions))).bind fun (x6:session_Sessions)=>some x6
def out_session_OfAll (l:List api_Sess) (r:session_Sessions):AV × WH:=((.agg (e_session_Sessions r)),[])
theorem s_session_OfAll (d:Nat) {l:List api_Sess} {r:session_Sessions} (h:session_OfAll l=some r):Spec (wcalls atab (d+2)) 154 [(l_api_Sess l)] [] (out_session_OfAll l r).1 (out_session_OfAll l r).2:=by
 unfold session_OfAll at h
 exact spec_by nB AF154 h (.bd fun x6 q6=>Lp [none,none,none,none,none] [] [.undef,.undef,.slice none 4 0 0 true,.undef,.undef] (s_session_OfAll_L0 (d+0) q6) <| .st none <| Fn Fo [] none)
def shard_Of (p_x:api_Image):Option (shard_Shard) :=
 (table_Of p_x.Pairs).bind fun (x1:table_Table)=>(session_OfAll p_x.Sess).bind fun (x2:session_Sessions)=>some (⟨x1,x2,p_x.Shard,p_x.Epoch⟩:shard_Shard)
def out_shard_Of (p_x:api_Image) (r:shard_Shard):AV × WH:=((.agg (e_shard_Shard r)),[])
theorem s_shard_Of (d:Nat) {p_x:api_Image} {r:shard_Shard} (h:shard_Of p_x=some r):Spec (wcalls atab (d+8)) 132 [(.agg (e_api_Image p_x))] [] (out_shard_Of p_x r).1 (out_shard_Of p_x r).2:=by
 unfold shard_Of at h
 exact spec_by nB AF132 h (.z 2 [.slice none 2 0 0 true,.undef,.undef,.undef,.undef,.undef,.undef,.undef,.undef,.undef,.undef,.undef,.undef,.undef,.undef,.undef,.undef,.undef,.undef] <| .bd fun x1 q1=>Cl [] Fo [.slice none 2 0 0 true] (s_table_Of (d+0) q1) <| .er <| .ob (rfl:@Eq (Option AV) (some (l_api_Sess p_x.Sess)) (some (l_api_Sess p_x.Sess))) <| .bd fun x2 q2=>Cb [.slice none 4 0 0 true] (s_session_OfAll (d+5) q2) <| .st none <| Fn Fo [.agg [.slice none 2 0 0 true,.undef,.undef,.undef,.undef,.undef,.undef,.undef,.undef,.undef,.undef,.undef,.undef,.undef,.undef,.undef,.undef,.undef,.undef]] none)
def table_Table_Pairs (t:shard_Shard):Option (List api_Pair) :=
 gd (fitsB 32 t.Table.l.length) (some t.Table.l)
def out_table_Table_Pairs (t:shard_Shard) (r:List api_Pair):AV × WH:=((l_api_Pair r),[(some (.cells (e_shard_Shard t) false false))])
theorem s_table_Table_Pairs (d:Nat) {t:shard_Shard} {r:List api_Pair} (h:table_Table_Pairs t=some r):Spec (wcalls atab (d+2)) 134 [(.ptr (some (0,0)))] [(some (.cells (e_shard_Shard t) false false))] (out_table_Table_Pairs t r).1 (out_table_Table_Pairs t r).2:=by
 unfold table_Table_Pairs at h
 exact spec_by (wB_ok _) AF134 h (.z 2 [.slice none 2 0 0 true] <| .gd fun q1=>.ob q1 <| Fn Fo [.slice none 2 0 0 true] none)
def st_slices_Equal_api_Pair_api_Pair_L0 (a0:List api_Pair) (a1:List api_Pair) (s3:Int):List AV × WH:=([(l_api_Pair a0),(l_api_Pair a1),(.int .i64 (a0.length:Int)),(.int .i64 s3)],[])
def fin_slices_Equal_api_Pair_api_Pair_L0 (a0:List api_Pair) (a1:List api_Pair):Unit ⊕ Unit→Ex × Fast × WH:=fun
 | .inl e=>(.ret,[(4,(.bool false))],[])
 | .inr e=>((.exit 0),[],[])
abbrev rx_slices_Equal_api_Pair_api_Pair_L0 (a0:List api_Pair) (a1:List api_Pair):=roundX [0,1,12,13] (st_slices_Equal_api_Pair_api_Pair_L0 a0 a1) (fin_slices_Equal_api_Pair_api_Pair_L0 a0 a1)
def slices_Equal_api_Pair_api_Pair_L0_s (a0:List api_Pair) (a1:List api_Pair) (s3:Int):Option ((Int) ⊕ (Unit ⊕ Unit)) :=
 cond (decide (s3 < (a0.length:Int))) ((getI a0 s3).bind fun (x4:api_Pair)=>(getI a1 s3).bind fun (x5:api_Pair)=>cond (!(x4.Key == x5.Key && (x4.Value == x5.Value && true))) (some (.inr (.inl ()))) (some (.inl (IntKind.i64.wrap (s3+1))))) (some (.inr (.inr ())))
def slices_Equal_api_Pair_api_Pair_L0 (a0:List api_Pair) (a1:List api_Pair) (s3:Int):Option (Unit ⊕ Unit):=loopX (slices_Equal_api_Pair_api_Pair_L0_s a0 a1) KK s3
theorem b_slices_Equal_api_Pair_api_Pair_L0 (d:Nat) {a0:List api_Pair} {a1:List api_Pair} {s3:Int} {r:(Int) ⊕ (Unit ⊕ Unit)} (h:slices_Equal_api_Pair_api_Pair_L0_s a0 a1 s3=some r):RunX (bexec (wcalls atab (d+0)) KK 26 WB133_0) 0 (inL [0,1,12,13] (st_slices_Equal_api_Pair_api_Pair_L0 a0 a1 s3)) (rx_slices_Equal_api_Pair_api_Pair_L0 a0 a1 r):=by
 unfold slices_Equal_api_Pair_api_Pair_L0_s at h
 exact run_by nB WB133_0_ok h (.br 14 (fun _=>.bd fun x4 q4=>Ix R_api_Pair 18 q4 <| .bd fun x5 q5=>Ix R_api_Pair 22 q5 <| .br 24 (fun _=>E0 [4]) fun _=>E1 [0,1,12,13] [none,none,none,none] [] [.slice none 2 0 0 true,.slice none 2 0 0 true,.undef,.undef]) fun _=>E0 [])
theorem s_slices_Equal_api_Pair_api_Pair_L0 (d:Nat) {a0:List api_Pair} {a1:List api_Pair} {s3:Int} {r:Unit ⊕ Unit} (h:slices_Equal_api_Pair_api_Pair_L0 a0 a1 s3=some r):RunX (bloop (bexec (wcalls atab (d+0)) KK 26 WB133_0) [0,1,12,13] KK) 0 (inL [0,1,12,13] (st_slices_Equal_api_Pair_api_Pair_L0 a0 a1 s3)) (fin_slices_Equal_api_Pair_api_Pair_L0 a0 a1 r) :=
 loop_of (st:=st_slices_Equal_api_Pair_api_Pair_L0 a0 a1) (fin:=fin_slices_Equal_api_Pair_api_Pair_L0 a0 a1) (step:=slices_Equal_api_Pair_api_Pair_L0_s a0 a1) (fun e=>by rcases e with e | e <;> (intro h; cases h)) (fun s x h=>b_slices_Equal_api_Pair_api_Pair_L0 d h) KK s3 r h
def slices_Equal_api_Pair_api_Pair (a0:List api_Pair) (a1:List api_Pair):Option (Bool) :=
 cond ((a0.length:Int) != (a1.length:Int)) (some false) ((slices_Equal_api_Pair_api_Pair_L0 a0 a1 0).bind fun (x6:Unit ⊕ Unit)=>cond (isL x6) (some false) (some true))
def out_slices_Equal_api_Pair_api_Pair (a0:List api_Pair) (a1:List api_Pair) (r:Bool):AV × WH:=((.bool r),[])
theorem s_slices_Equal_api_Pair_api_Pair (d:Nat) {a0:List api_Pair} {a1:List api_Pair} {r:Bool} (h:slices_Equal_api_Pair_api_Pair a0 a1=some r):Spec (wcalls atab (d+1)) 133 [(l_api_Pair a0),(l_api_Pair a1)] [] (out_slices_Equal_api_Pair_api_Pair a0 a1 r).1 (out_slices_Equal_api_Pair_api_Pair a0 a1 r).2:=by
 unfold slices_Equal_api_Pair_api_Pair at h
 exact spec_by nB AF133 h (.br 10 (fun _=>Fn Fo [] none) fun _=>.bd fun x6 q6=>.ite (fun hb7=>Lp [none,none,none,none] [] [.slice none 2 0 0 true,.slice none 2 0 0 true,.undef,.undef] (rwr (il hb7) (s_slices_Equal_api_Pair_api_Pair_L0 (d+0) q6)) <| Fn Fo [] none) fun hb7=>Lp [none,none,none,none] [] [.slice none 2 0 0 true,.slice none 2 0 0 true,.undef,.undef] (rwr (ir0 hb7) (s_slices_Equal_api_Pair_api_Pair_L0 (d+0) q6)) <| Fn Fo [] none)
def st_session_Sessions_All_L0 (p_s:shard_Shard) (s5:Int × List api_Sess):List AV × WH:=([(.acc 1 0 4 s5.2.length true),(.agg (e_session_Sessions p_s.Sessions)),(.int .i64 s5.1)],[(some (.cells (e_shard_Shard p_s) false false)),(some (.cells (F_api_Sess s5.2) false true))])
def fin_session_Sessions_All_L0 (p_s:shard_Shard):(List api_Sess)→Ex × Fast × WH:=fun e=>((.exit 0),[(3,(.acc 1 0 4 e.length true))],[(some (.cells (e_shard_Shard p_s) false false)),(some (.cells (F_api_Sess e) false true))])
abbrev rx_session_Sessions_All_L0 (p_s:shard_Shard):=roundX [3,9,10] (st_session_Sessions_All_L0 p_s) (fin_session_Sessions_All_L0 p_s)
def session_Sessions_All_L0_s (p_s:shard_Shard) (s5:Int × List api_Sess):Option ((Int × List api_Sess) ⊕ ((List api_Sess))) :=
 cond (decide (s5.1 < 4)) ((getI ([p_s.Sessions.l.a0,p_s.Sessions.l.a1,p_s.Sessions.l.a2,p_s.Sessions.l.a3]:List api_Sess) s5.1).bind fun (x6:api_Sess)=>cond (decide (x6.Seq > 0)) (gd (fitsB 40 (s5.2 ++ [x6]).length) (some (.inl ((IntKind.i64.wrap (s5.1+1)),(s5.2 ++ [x6]))))) (some (.inl ((IntKind.i64.wrap (s5.1+1)),s5.2)))) (some (.inr s5.2))
def session_Sessions_All_L0 (p_s:shard_Shard) (s5:Int × List api_Sess):Option ((List api_Sess)):=loopX (session_Sessions_All_L0_s p_s) KK s5
theorem b_session_Sessions_All_L0 (d:Nat) {p_s:shard_Shard} {s5:Int × List api_Sess} {r:(Int × List api_Sess) ⊕ ((List api_Sess))} (h:session_Sessions_All_L0_s p_s s5=some r):RunX (bexec (wcalls atab (d+0)) KK 23 WB136_0) 1 (inL [3,9,10] (st_session_Sessions_All_L0 p_s s5)) (rx_session_Sessions_All_L0 p_s r):=by
 unfold session_Sessions_All_L0_s at h
 exact run_by nB WB136_0_ok h (.br 11 (fun _=>.bd fun x6 q6=>.v 12 (.agg (e_api_Sess x6)) <| .ob (wP_ixA R_api_Sess q6:wP (.index true 4 4 (.c (.agg (F_api_Sess ([p_s.Sessions.l.a0,p_s.Sessions.l.a1,p_s.Sessions.l.a2,p_s.Sessions.l.a3])))) (.c (.int .i64 s5.1)))=some (.agg (e_api_Sess x6))) <| .st none <| .br 15 (fun _=>.gd fun q7=>Ap R_api_Sess 19 q7 <| E1 [3,9,10] [none,none,none] [] [.slice none 4 0 0 true,.undef,.undef]) fun _=>E1 [3,9,10] [none,none,none] [] [.slice none 4 0 0 true,.undef,.undef]) fun _=>E1 [3] [none] [] [.slice none 4 0 0 true])
theorem s_session_Sessions_All_L0 (d:Nat) {p_s:shard_Shard} {s5:Int × List api_Sess} {r:(List api_Sess)} (h:session_Sessions_All_L0 p_s s5=some r):RunX (bloop (bexec (wcalls atab (d+0)) KK 23 WB136_0) [3,9,10] KK) 1 (inL [3,9,10] (st_session_Sessions_All_L0 p_s s5)) (fin_session_Sessions_All_L0 p_s r) :=
 loop_of (st:=st_session_Sessions_All_L0 p_s) (fin:=fin_session_Sessions_All_L0 p_s) (step:=session_Sessions_All_L0_s p_s) (fun e=>by (intro h; cases h)) (fun s x h=>b_session_Sessions_All_L0 d h) KK s5 r h
def session_Sessions_All (p_s:shard_Shard):Option (List api_Sess) :=
 (session_Sessions_All_L0 p_s (0,[])).bind fun (x8:(List api_Sess))=>some x8
def out_session_Sessions_All (p_s:shard_Shard) (r:List api_Sess):AV × WH:=((l_api_Sess r),[(some (.cells (e_shard_Shard p_s) false false))])
theorem s_session_Sessions_All (d:Nat) {p_s:shard_Shard} {r:List api_Sess} (h:session_Sessions_All p_s=some r):Spec (wcalls atab (d+2)) 136 [(.ptr (some (0,1)))] [(some (.cells (e_shard_Shard p_s) false false))] (out_session_Sessions_All p_s r).1 (out_session_Sessions_All p_s r).2:=by
 unfold session_Sessions_All at h
 exact spec_by (wB_ok _) AF136 h (.z 2 [.slice none 4 0 0 true] <| .z 3 [.slice none 4 0 0 true] <| .bd fun x8 q8=>Lp [Tw,none,none] [] [.slice none 4 0 0 true,.undef,.undef] (s_session_Sessions_All_L0 (d+1) q8) <| Fn Fo [.slice none 4 0 0 true] none)
def st_slices_Equal_api_Sess_api_Sess_L0 (a0:List api_Sess) (a1:List api_Sess) (s3:Int):List AV × WH:=([(l_api_Sess a0),(l_api_Sess a1),(.int .i64 (a0.length:Int)),(.int .i64 s3)],[])
def fin_slices_Equal_api_Sess_api_Sess_L0 (a0:List api_Sess) (a1:List api_Sess):Unit ⊕ Unit→Ex × Fast × WH:=fun
 | .inl e=>(.ret,[(4,(.bool false))],[])
 | .inr e=>((.exit 0),[],[])
abbrev rx_slices_Equal_api_Sess_api_Sess_L0 (a0:List api_Sess) (a1:List api_Sess):=roundX [0,1,12,13] (st_slices_Equal_api_Sess_api_Sess_L0 a0 a1) (fin_slices_Equal_api_Sess_api_Sess_L0 a0 a1)
def slices_Equal_api_Sess_api_Sess_L0_s (a0:List api_Sess) (a1:List api_Sess) (s3:Int):Option ((Int) ⊕ (Unit ⊕ Unit)) :=
 cond (decide (s3 < (a0.length:Int))) ((getI a0 s3).bind fun (x4:api_Sess)=>(getI a1 s3).bind fun (x5:api_Sess)=>cond (!(x4.Client == x5.Client && (x4.Seq == x5.Seq && (x4.Answer.Why == x5.Answer.Why && (x4.Answer.Value == x5.Answer.Value && true))))) (some (.inr (.inl ()))) (some (.inl (IntKind.i64.wrap (s3+1))))) (some (.inr (.inr ())))
def slices_Equal_api_Sess_api_Sess_L0 (a0:List api_Sess) (a1:List api_Sess) (s3:Int):Option (Unit ⊕ Unit):=loopX (slices_Equal_api_Sess_api_Sess_L0_s a0 a1) KK s3
theorem b_slices_Equal_api_Sess_api_Sess_L0 (d:Nat) {a0:List api_Sess} {a1:List api_Sess} {s3:Int} {r:(Int) ⊕ (Unit ⊕ Unit)} (h:slices_Equal_api_Sess_api_Sess_L0_s a0 a1 s3=some r):RunX (bexec (wcalls atab (d+0)) KK 26 WB135_0) 0 (inL [0,1,12,13] (st_slices_Equal_api_Sess_api_Sess_L0 a0 a1 s3)) (rx_slices_Equal_api_Sess_api_Sess_L0 a0 a1 r):=by
 unfold slices_Equal_api_Sess_api_Sess_L0_s at h
 exact run_by nB WB135_0_ok h (.br 14 (fun _=>.bd fun x4 q4=>Ix R_api_Sess 18 q4 <| .bd fun x5 q5=>Ix R_api_Sess 22 q5 <| .br 24 (fun _=>E0 [4]) fun _=>E1 [0,1,12,13] [none,none,none,none] [] [.slice none 4 0 0 true,.slice none 4 0 0 true,.undef,.undef]) fun _=>E0 [])
theorem s_slices_Equal_api_Sess_api_Sess_L0 (d:Nat) {a0:List api_Sess} {a1:List api_Sess} {s3:Int} {r:Unit ⊕ Unit} (h:slices_Equal_api_Sess_api_Sess_L0 a0 a1 s3=some r):RunX (bloop (bexec (wcalls atab (d+0)) KK 26 WB135_0) [0,1,12,13] KK) 0 (inL [0,1,12,13] (st_slices_Equal_api_Sess_api_Sess_L0 a0 a1 s3)) (fin_slices_Equal_api_Sess_api_Sess_L0 a0 a1 r) :=
 loop_of (st:=st_slices_Equal_api_Sess_api_Sess_L0 a0 a1) (fin:=fin_slices_Equal_api_Sess_api_Sess_L0 a0 a1) (step:=slices_Equal_api_Sess_api_Sess_L0_s a0 a1) (fun e=>by rcases e with e | e <;> (intro h; cases h)) (fun s x h=>b_slices_Equal_api_Sess_api_Sess_L0 d h) KK s3 r h
def slices_Equal_api_Sess_api_Sess (a0:List api_Sess) (a1:List api_Sess):Option (Bool) :=
 cond ((a0.length:Int) != (a1.length:Int)) (some false) ((slices_Equal_api_Sess_api_Sess_L0 a0 a1 0).bind fun (x6:Unit ⊕ Unit)=>cond (isL x6) (some false) (some true))
def out_slices_Equal_api_Sess_api_Sess (a0:List api_Sess) (a1:List api_Sess) (r:Bool):AV × WH:=((.bool r),[])
theorem s_slices_Equal_api_Sess_api_Sess (d:Nat) {a0:List api_Sess} {a1:List api_Sess} {r:Bool} (h:slices_Equal_api_Sess_api_Sess a0 a1=some r):Spec (wcalls atab (d+1)) 135 [(l_api_Sess a0),(l_api_Sess a1)] [] (out_slices_Equal_api_Sess_api_Sess a0 a1 r).1 (out_slices_Equal_api_Sess_api_Sess a0 a1 r).2:=by
 unfold slices_Equal_api_Sess_api_Sess at h
 exact spec_by nB AF135 h (.br 10 (fun _=>Fn Fo [] none) fun _=>.bd fun x6 q6=>.ite (fun hb7=>Lp [none,none,none,none] [] [.slice none 4 0 0 true,.slice none 4 0 0 true,.undef,.undef] (rwr (il hb7) (s_slices_Equal_api_Sess_api_Sess_L0 (d+0) q6)) <| Fn Fo [] none) fun hb7=>Lp [none,none,none,none] [] [.slice none 4 0 0 true,.slice none 4 0 0 true,.undef,.undef] (rwr (ir0 hb7) (s_slices_Equal_api_Sess_api_Sess_L0 (d+0) q6)) <| Fn Fo [] none)
abbrev in_shard_answered_J0 (p_x:api_Sess):Fast × WH:=([(1,(.ptr (some (0,0)))),(5,(.int .i64 p_x.Answer.Why))],[(some (.cells (e_api_Sess p_x) false false))])
def fin_shard_answered_J0 (p_x:api_Sess):Bool→Ex × Fast × WH:=fun e=>(.normal,[(1,(.ptr (some (0,0)))),(6,(.bool e))],[(some (.cells (e_api_Sess p_x) false false))])
def shard_answered_J0 (p_x:api_Sess):Option (Bool) :=
 cond (p_x.Answer.Why == 0) (some true) (cond (p_x.Answer.Why == 4) (some true) (cond (p_x.Answer.Why == 5) (some true) (some (p_x.Answer.Why == 6))))
theorem s_shard_answered_J0 (d:Nat) {p_x:api_Sess} {r:Bool} (h:shard_answered_J0 p_x=some r):RunX (bexec (wcalls atab (d+0)) KK 21 WJ139_babka) 0 (in_shard_answered_J0 p_x) (fin_shard_answered_J0 p_x r):=by
 unfold shard_answered_J0 at h
 exact run_by nB WJ139_babka_ok h (.br 6 (fun _=>E0 [1,6]) fun _=>.br 6 (fun _=>E0 [1,6]) fun _=>.br 6 (fun _=>E0 [1,6]) fun _=>E0 [1,6])
def shard_answered (p_x:api_Sess):Option (Bool) :=
 (shard_answered_J0 p_x).bind fun (x1:Bool)=>cond x1 (cond (decide ((p_x.Answer.Value.length:Int)≤16)) (some (decide (p_x.Seq≤4611686018427387903))) (some false)) (some false)
def out_shard_answered (p_x:api_Sess) (r:Bool):AV × WH:=((.bool r),[])
theorem s_shard_answered (d:Nat) {p_x:api_Sess} {r:Bool} (h:shard_answered p_x=some r):Spec (wcalls atab (d+1)) 139 [(.agg (e_api_Sess p_x))] [] (out_shard_answered p_x r).1 (out_shard_answered p_x r).2:=by
 unfold shard_answered at h
 exact spec_by nB AF139 h (.sk <| .sk <| .sk <| .bd fun x1 q1=>Jn [1,5] [none,none] [] [] (s_shard_answered_J0 (d+0) q1) <| .br 6 (fun _=>.br 16 (fun _=>Fn Fo [] none) fun _=>Fn Fo [] none) fun _=>Fn Fo [] none)
def shard_Right_1 (y:api_Sess):Option (Bool) :=
 (shard_answered y).bind fun (x1:Bool)=>some (!x1)
def out_shard_Right_1 (y:api_Sess) (r:Bool):AV × WH:=((.bool r),[])
theorem s_shard_Right_1 (d:Nat) {y:api_Sess} {r:Bool} (h:shard_Right_1 y=some r):Spec (wcalls atab (d+2)) 138 [(.agg (e_api_Sess y))] [] (out_shard_Right_1 y r).1 (out_shard_Right_1 y r).2:=by
 unfold shard_Right_1 at h
 exact spec_by nB AF138 h (.bd fun x1 q1=>Cb0 (s_shard_answered (d+0) q1) <| Fn Fo [] none)
def st_slices_IndexFunc_api_Sess_api_Sess_L0 (a0:List api_Sess) (s3:Int):List AV × WH:=([(l_api_Sess a0),(.func 138 []),(.int .i64 (a0.length:Int)),(.int .i64 s3)],[])
def fin_slices_IndexFunc_api_Sess_api_Sess_L0 (a0:List api_Sess):Int ⊕ Unit→Ex × Fast × WH:=fun
 | .inl e=>(.ret,[(4,(.int .i64 e))],[])
 | .inr e=>((.exit 0),[],[])
abbrev rx_slices_IndexFunc_api_Sess_api_Sess_L0 (a0:List api_Sess):=roundX [0,1,7,8] (st_slices_IndexFunc_api_Sess_api_Sess_L0 a0) (fin_slices_IndexFunc_api_Sess_api_Sess_L0 a0)
def slices_IndexFunc_api_Sess_api_Sess_L0_s (a0:List api_Sess) (s3:Int):Option ((Int) ⊕ (Int ⊕ Unit)) :=
 cond (decide (s3 < (a0.length:Int))) ((getI a0 s3).bind fun (x4:api_Sess)=>(shard_Right_1 x4).bind fun (x5:Bool)=>cond x5 (some (.inr (.inl s3))) (some (.inl (IntKind.i64.wrap (s3+1))))) (some (.inr (.inr ())))
def slices_IndexFunc_api_Sess_api_Sess_L0 (a0:List api_Sess) (s3:Int):Option (Int ⊕ Unit):=loopX (slices_IndexFunc_api_Sess_api_Sess_L0_s a0) KK s3
theorem b_slices_IndexFunc_api_Sess_api_Sess_L0 (d:Nat) {a0:List api_Sess} {s3:Int} {r:(Int) ⊕ (Int ⊕ Unit)} (h:slices_IndexFunc_api_Sess_api_Sess_L0_s a0 s3=some r):RunX (bexec (wcalls atab (d+2)) KK 19 WB156_0) 0 (inL [0,1,7,8] (st_slices_IndexFunc_api_Sess_api_Sess_L0 a0 s3)) (rx_slices_IndexFunc_api_Sess_api_Sess_L0 a0 r):=by
 unfold slices_IndexFunc_api_Sess_api_Sess_L0_s at h
 exact run_by nB WB156_0_ok h (.br 9 (fun _=>.bd fun x4 q4=>Ix R_api_Sess 14 q4 <| .bd fun x5 q5=>Cb0 (s_shard_Right_1 (d+0) q5) <| .br 16 (fun _=>E0 [4]) fun _=>E1 [0,1,7,8] [none,none,none,none] [] [.slice none 4 0 0 true,.undef,.undef,.undef]) fun _=>E0 [])
theorem s_slices_IndexFunc_api_Sess_api_Sess_L0 (d:Nat) {a0:List api_Sess} {s3:Int} {r:Int ⊕ Unit} (h:slices_IndexFunc_api_Sess_api_Sess_L0 a0 s3=some r):RunX (bloop (bexec (wcalls atab (d+2)) KK 19 WB156_0) [0,1,7,8] KK) 0 (inL [0,1,7,8] (st_slices_IndexFunc_api_Sess_api_Sess_L0 a0 s3)) (fin_slices_IndexFunc_api_Sess_api_Sess_L0 a0 r) :=
 loop_of (st:=st_slices_IndexFunc_api_Sess_api_Sess_L0 a0) (fin:=fin_slices_IndexFunc_api_Sess_api_Sess_L0 a0) (step:=slices_IndexFunc_api_Sess_api_Sess_L0_s a0) (fun e=>by rcases e with e | e <;> (intro h; cases h)) (fun s x h=>b_slices_IndexFunc_api_Sess_api_Sess_L0 d h) KK s3 r h
def slices_IndexFunc_api_Sess_api_Sess (a0:List api_Sess):Option (Int) :=
 (slices_IndexFunc_api_Sess_api_Sess_L0 a0 0).bind fun (x6:Int ⊕ Unit)=>cond (isL x6) (some (getL x6)) (some (-1))
def out_slices_IndexFunc_api_Sess_api_Sess (a0:List api_Sess) (r:Int):AV × WH:=((.int .i64 r),[])
theorem s_slices_IndexFunc_api_Sess_api_Sess (d:Nat) {a0:List api_Sess} {r:Int} (h:slices_IndexFunc_api_Sess_api_Sess a0=some r):Spec (wcalls atab (d+3)) 156 [(l_api_Sess a0),(.func 138 [])] [] (out_slices_IndexFunc_api_Sess_api_Sess a0 r).1 (out_slices_IndexFunc_api_Sess_api_Sess a0 r).2:=by
 unfold slices_IndexFunc_api_Sess_api_Sess at h
 exact spec_by nB AF156 h (.bd fun x6 q6=>.ite (fun hb7=>Lp [none,none,none,none] [] [.slice none 4 0 0 true,.undef,.undef,.undef] (rwr (il hb7) (s_slices_IndexFunc_api_Sess_api_Sess_L0 (d+0) q6)) <| Fn Fo [] none) fun hb7=>Lp [none,none,none,none] [] [.slice none 4 0 0 true,.undef,.undef,.undef] (rwr (ir0 hb7) (s_slices_IndexFunc_api_Sess_api_Sess_L0 (d+0) q6)) <| Fn Fo [] none)
def slices_ContainsFunc_api_Sess_api_Sess (a0:List api_Sess):Option (Bool) :=
 (slices_IndexFunc_api_Sess_api_Sess a0).bind fun (x1:Int)=>some (decide (x1 ≥ 0))
def out_slices_ContainsFunc_api_Sess_api_Sess (a0:List api_Sess) (r:Bool):AV × WH:=((.bool r),[])
theorem s_slices_ContainsFunc_api_Sess_api_Sess (d:Nat) {a0:List api_Sess} {r:Bool} (h:slices_ContainsFunc_api_Sess_api_Sess a0=some r):Spec (wcalls atab (d+4)) 137 [(l_api_Sess a0),(.func 138 [])] [] (out_slices_ContainsFunc_api_Sess_api_Sess a0 r).1 (out_slices_ContainsFunc_api_Sess_api_Sess a0 r).2:=by
 unfold slices_ContainsFunc_api_Sess_api_Sess at h
 exact spec_by nB AF137 h (.bd fun x1 q1=>Cb [.slice none 4 0 0 true] (s_slices_IndexFunc_api_Sess_api_Sess (d+0) q1) <| Fn Fo [] none)
end Go.Proofs.YtgahmammhclobaaGreat
