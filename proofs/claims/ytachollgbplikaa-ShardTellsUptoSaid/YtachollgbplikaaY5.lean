import Derived.Test.YtachollgbplikaaXt
import Derived.Test.YtachollgbplikaaXs
import Derived.Test.YtachollgbplikaaY4
set_option linter.all false
set_option maxRecDepth 100000
namespace Go.Proofs.Ytachollgbplikaa
abbrev in_oH_Image_J0 (s10:Int × oR_Shard) (l:List oH_RawOp) (bend:Int):Fast × WH:=([(2,(l_oH_RawOp l)),(3,(.int .i64 bend)),(8,(.ptr (some (0,0)))),(9,(.ptr (some (1,0)))),(10,(.int .i64 s10.1))],[(some (.cells [(.int .i64 0),(.int .i64 0),(.slice none 2 0 0 true),(.slice none 4 0 0 true)] false false)),(some (.cells (e_oR_Shard s10.2) false false))])
def fin_oH_Image_J0 (s10:Int × oR_Shard) (l:List oH_RawOp) (bend:Int):Unit ⊕ Unit→Ex × Fast × WH:=fun
  | .inl e=>(.normal,[(2,(l_oH_RawOp l)),(3,(.int .i64 bend)),(8,(.ptr (some (0,0)))),(9,(.ptr (some (1,0)))),(10,(.int .i64 s10.1))],[(some (.cells [(.int .i64 0),(.int .i64 0),(.slice none 2 0 0 true),(.slice none 4 0 0 true)] false false)),(some (.cells (e_oR_Shard s10.2) false false))])
  | .inr e=>((.exit 0),[(3,(.int .i64 bend)),(8,(.ptr (some (0,0)))),(9,(.ptr (some (1,0))))],[(some (.cells [(.int .i64 0),(.int .i64 0),(.slice none 2 0 0 true),(.slice none 4 0 0 true)] false false)),(some (.cells (e_oR_Shard s10.2) false false))])
def oH_Image_J0 (s10:Int × oR_Shard) (l:List oH_RawOp) (bend:Int):Option (Unit ⊕ Unit) :=
  cond (decide (s10.1 < (l.length:Int))) (cond (decide (s10.1 < 12)) (some (.inl ())) (some (.inr ()))) (some (.inr ()))
theorem s_oH_Image_J0 (d:Nat) {s10:Int × oR_Shard} {l:List oH_RawOp} {bend:Int} {r:Unit ⊕ Unit} (h:oH_Image_J0 s10 l bend=some r):RunX (bexec (wcalls atab (d+0)) KK 113 WJ74_bbabkla) 0 (in_oH_Image_J0 s10 l bend) (fin_oH_Image_J0 s10 l bend r):=by
  have e:∀ C:ACalls,wCode C (fun _=>none) KK 113 0 WJ74_bbabkla (in_oH_Image_J0 s10 l bend).1 (in_oH_Image_J0 s10 l bend).2 (.br 25 (.br 28 (.en [2,3,8,9,10] [none,none,none,none,none] [] [.slice none 8 0 0 true,.undef,.undef,.undef,.undef]) (.en [3,8,9] [none,none,none] [] [])) (.en [3,8,9] [none,none,none] [] [])) (fin_oH_Image_J0 s10 l bend r)=(((decide (s10.1 < (l.length:Int)))=true→(((decide (s10.1 < 12))=true→lfe (fin_oH_Image_J0 s10 l bend) (.inl ()) r)∧((decide (s10.1 < 12))=false→lfe (fin_oH_Image_J0 s10 l bend) (.inr ()) r)))∧((decide (s10.1 < (l.length:Int)))=false→lfe (fin_oH_Image_J0 s10 l bend) (.inr ()) r)):=fun C=>by kernel_rfl
  refine runS_of (fun _ _ h=>by cases h) WJ74_bbabkla_ok (Nat.le_of_ble_eq_true rfl) ((e _).mpr ?_)
  unfold oH_Image_J0 at h
  refine ⟨fun hb=>?_,fun hb=>?_⟩
  · have h:=cond_t hb h
    refine ⟨fun hb=>?_,fun hb=>?_⟩
    · have h:=cond_t hb h
      exact lfe_of h
    · have h:=cond_f hb h
      exact lfe_of h
  · have h:=cond_f hb h
    exact lfe_of h
def st_oH_Image_L1 (l:List oH_RawOp) (bend:Int) (s10:Int × oR_Shard):List AV × WH:=([(l_oH_RawOp l),(.int .i64 bend),(.ptr (some (0,0))),(.ptr (some (1,0))),(.int .i64 s10.1)],[(some (.cells [(.int .i64 0),(.int .i64 0),(.slice none 2 0 0 true),(.slice none 4 0 0 true)] false false)),(some (.cells (e_oR_Shard s10.2) false false))])
def fin_oH_Image_L1 (l:List oH_RawOp) (bend:Int):oR_Shard→Ex × Fast × WH:=fun e=>((.exit 0),[(3,(.int .i64 bend)),(8,(.ptr (some (0,0)))),(9,(.ptr (some (1,0))))],[(some (.cells [(.int .i64 0),(.int .i64 0),(.slice none 2 0 0 true),(.slice none 4 0 0 true)] false false)),(some (.cells (e_oR_Shard e) false false))])
abbrev rx_oH_Image_L1 (l:List oH_RawOp) (bend:Int):=roundX [2,3,8,9,10] (st_oH_Image_L1 l bend) (fin_oH_Image_L1 l bend)
def oH_Image_L1_s (l:List oH_RawOp) (bend:Int) (s10:Int × oR_Shard):Option ((Int × oR_Shard) ⊕ (oR_Shard)) :=
  (oH_Image_J0 s10 l bend).bind fun (x11:Unit ⊕ Unit)=>cond (isL x11) ((getI l s10.1).bind fun (x13:oH_RawOp)=>(oH_Pick x13.Kind 3).bind fun (x14:Int)=>(oH_Req (⟨(IntKind.i64.wrap (1+x14)),x13.Key,x13.Value,x13.Old,x13.Client,x13.Seq,0,x13.Text⟩:oH_RawOp)).bind fun (x15:api_Req)=>(oR_Shard_Ask x15 s10.2).bind fun (x16:api_Answer × Bool × oR_Shard)=>some (.inl ((IntKind.i64.wrap (s10.1+1)),x16.2.2))) (some (.inr s10.2))
def oH_Image_L1 (l:List oH_RawOp) (bend:Int) (s10:Int × oR_Shard):Option (oR_Shard):=loopX (oH_Image_L1_s l bend) KK s10
theorem b_oH_Image_L1 (d:Nat) {l:List oH_RawOp} {bend:Int} {s10:Int × oR_Shard} {r:(Int × oR_Shard) ⊕ (oR_Shard)} (h:oH_Image_L1_s l bend s10=some r):RunX (bexec (wcalls atab (d+4)) KK 113 WB74_0) 0 (inL [2,3,8,9,10] (st_oH_Image_L1 l bend s10)) (rx_oH_Image_L1 l bend r):=by
  obtain ⟨x11,hx11⟩:=wx (oH_Image_J0 s10 l bend)
  obtain ⟨x13,hx13⟩:=wx (getI l s10.1)
  obtain ⟨x14,hx14⟩:=wx (oH_Pick x13.Kind 3)
  obtain ⟨x15,hx15⟩:=wx (oH_Req (⟨(IntKind.i64.wrap (1+x14)),x13.Key,x13.Value,x13.Old,x13.Client,x13.Seq,0,x13.Text⟩:oH_RawOp))
  obtain ⟨x16,hx16⟩:=wx (oR_Shard_Ask x15 s10.2)
  have e:∀ C:ACalls,wCode C (fun _=>none) KK 113 0 WB74_0 (inL [2,3,8,9,10] (st_oH_Image_L1 l bend s10)).1 (inL [2,3,8,9,10] (st_oH_Image_L1 l bend s10)).2 (.ite (isL x11) (.jn [2,3,8,9,10] [none,none,none,none,none] [] [.slice none 8 0 0 true,.undef,.undef,.undef,.undef] .normal [(2,(l_oH_RawOp l)),(3,(.int .i64 bend)),(8,(.ptr (some (0,0)))),(9,(.ptr (some (1,0)))),(10,(.int .i64 s10.1))] [(some (.cells [(.int .i64 0),(.int .i64 0),(.slice none 2 0 0 true),(.slice none 4 0 0 true)] false false)),(some (.cells (e_oR_Shard s10.2) false false))] (.v 33 (.elem ((e_oH_RawOp x13) ++ F_oH_RawOp (l.drop (s10.1.toNat+1)))) (.st none (.st none (.cb [] [] (.int .i64 x14) (.st none (.cb [] [] (.agg (e_api_Req x15)) (.call [] (some false) [] (.tuple [(.agg (e_api_Answer x16.1)),(.bool x16.2.1)]) [(some (.cells (e_oR_Shard x16.2.2) false false))] (.en [2,3,8,9,10] [none,none,none,none,none] [] [.slice none 8 0 0 true,.undef,.undef,.undef,.undef]))))))))) (.jn [2,3,8,9,10] [none,none,none,none,none] [] [.slice none 8 0 0 true,.undef,.undef,.undef,.undef] (.exit 0) [(3,(.int .i64 bend)),(8,(.ptr (some (0,0)))),(9,(.ptr (some (1,0))))] [(some (.cells [(.int .i64 0),(.int .i64 0),(.slice none 2 0 0 true),(.slice none 4 0 0 true)] false false)),(some (.cells (e_oR_Shard s10.2) false false))] (.en [3,8,9] [none,none,none] [] []))) (rx_oH_Image_L1 l bend r)=(((isL x11)=true→(RunS (bexec C KK 113 WJ74_bbabkla) 0 [(2,(l_oH_RawOp l)),(3,(.int .i64 bend)),(8,(.ptr (some (0,0)))),(9,(.ptr (some (1,0)))),(10,(.int .i64 s10.1))] [(some (.cells [(.int .i64 0),(.int .i64 0),(.slice none 2 0 0 true),(.slice none 4 0 0 true)] false false)),(some (.cells (e_oR_Shard s10.2) false false))] .normal [(2,(l_oH_RawOp l)),(3,(.int .i64 bend)),(8,(.ptr (some (0,0)))),(9,(.ptr (some (1,0)))),(10,(.int .i64 s10.1))] [(some (.cells [(.int .i64 0),(.int .i64 0),(.slice none 2 0 0 true),(.slice none 4 0 0 true)] false false)),(some (.cells (e_oR_Shard s10.2) false false))]∧(wP (.idxSlice 8 (.c (l_oH_RawOp l)) (.c (.int .i64 s10.1)))=some (.elem ((e_oH_RawOp x13) ++ F_oH_RawOp (l.drop (s10.1.toNat+1))))∧(Spec C 28 [(.int .i64 x13.Kind),(.int .i64 3)] [] (.int .i64 x14) []∧(Spec C 61 [(.agg (e_oH_RawOp (⟨(IntKind.i64.wrap (1+x14)),x13.Key,x13.Value,x13.Old,x13.Client,x13.Seq,0,x13.Text⟩:oH_RawOp)))] [] (.agg (e_api_Req x15)) []∧(Spec C 77 [(.ptr (some (0,0))),(.agg (e_api_Req x15))] [(some (.cells (e_oR_Shard s10.2) false false))] (.tuple [(.agg (e_api_Answer x16.1)),(.bool x16.2.1)]) [(some (.cells (e_oR_Shard x16.2.2) false false))]∧(1≤1∧lfe (rx_oH_Image_L1 l bend) (.inl ((IntKind.i64.wrap (s10.1+1)),x16.2.2)) r)))))))∧((isL x11)=false→(RunS (bexec C KK 113 WJ74_bbabkla) 0 [(2,(l_oH_RawOp l)),(3,(.int .i64 bend)),(8,(.ptr (some (0,0)))),(9,(.ptr (some (1,0)))),(10,(.int .i64 s10.1))] [(some (.cells [(.int .i64 0),(.int .i64 0),(.slice none 2 0 0 true),(.slice none 4 0 0 true)] false false)),(some (.cells (e_oR_Shard s10.2) false false))] (.exit 0) [(3,(.int .i64 bend)),(8,(.ptr (some (0,0)))),(9,(.ptr (some (1,0))))] [(some (.cells [(.int .i64 0),(.int .i64 0),(.slice none 2 0 0 true),(.slice none 4 0 0 true)] false false)),(some (.cells (e_oR_Shard s10.2) false false))]∧lfe (rx_oH_Image_L1 l bend) (.inr s10.2) r))):=fun C=>by kernel_rfl
  refine runS_of (fun _ _ h=>by cases h) WB74_0_ok (Nat.le_of_ble_eq_true rfl) ((e _).mpr ?_)
  unfold oH_Image_L1_s at h
  obtain ⟨q11,h⟩:=bget hx11 h
  refine ⟨fun hb12=>?_,fun hb12=>?_⟩
  · have h:=cond_t hb12 h
    refine ⟨by have h:=s_oH_Image_J0 (d+4) q11; rw [isL_t hb12] at h; exact h, ?_⟩
    obtain ⟨q13,h⟩:=bget hx13 h
    refine ⟨wP_idx R_oH_RawOp q13, ?_⟩
    obtain ⟨q14,h⟩:=bget hx14 h
    refine ⟨s_oH_Pick (d+3) q14, ?_⟩
    obtain ⟨q15,h⟩:=bget hx15 h
    refine ⟨s_oH_Req (d+0) q15, ?_⟩
    obtain ⟨q16,h⟩:=bget hx16 h
    refine ⟨s_oR_Shard_Ask (d+1) q16, ?_⟩
    refine ⟨by decide, ?_⟩
    exact lfe_of h
  · have h:=cond_f hb12 h
    refine ⟨by have h:=s_oH_Image_J0 (d+4) q11; rw [isL_f hb12] at h; exact h, ?_⟩
    exact lfe_of h
theorem s_oH_Image_L1 (d:Nat) {l:List oH_RawOp} {bend:Int} {s10:Int × oR_Shard} {r:oR_Shard} (h:oH_Image_L1 l bend s10=some r):RunX (bloop (bexec (wcalls atab (d+4)) KK 113 WB74_0) [2,3,8,9,10] KK) 0 (inL [2,3,8,9,10] (st_oH_Image_L1 l bend s10)) (fin_oH_Image_L1 l bend r) :=
  loop_of (st:=st_oH_Image_L1 l bend) (fin:=fin_oH_Image_L1 l bend) (step:=oH_Image_L1_s l bend) (fun e=>by (intro h; cases h)) (fun s x h=>b_oH_Image_L1 d h) KK s10 r h
def oH_Image (k:Int) (epoch:Int) (l:List oH_RawOp) (bend:Int):Option (api_Image) :=
  (oH_Pick k 6).bind fun (x1:Int)=>(oH_Pick epoch 6).bind fun (x2:Int)=>(oR_ShardFrom (⟨x1,(IntKind.i64.wrap (1+x2)),[],[]⟩:api_Image)).bind fun (x3:oR_Shard)=>(oH_Image_L1 l bend (0,x3)).bind fun (x17:oR_Shard)=>(oR_Shard_Image_2 x17).bind fun (x18:Int × Int × List api_Pair × List api_Sess)=>(oH_Pick bend 14).bind fun (x19:Int)=>cond (x19 == 8) ((oH_Num (IntKind.i64.wrap (Int.tdiv bend 14))).bind fun (x20:Int)=>some (⟨x20,x18.2.1,x18.2.2.1,x18.2.2.2⟩:api_Image)) (cond (x19 == 9) ((oH_Num (IntKind.i64.wrap (Int.tdiv bend 14))).bind fun (x21:Int)=>some (⟨x18.1,(IntKind.i64.wrap (x21 - 1)),x18.2.2.1,x18.2.2.2⟩:api_Image)) (cond (x19 == 10) ((oH_Key (IntKind.i64.wrap (Int.tdiv bend 14))).bind fun (x22:List UInt8)=>gd (fitsB 32 (x18.2.2.1 ++ [(⟨x22,[118]⟩:api_Pair)]).length) (some (⟨x18.1,x18.2.1,(x18.2.2.1 ++ [(⟨x22,[118]⟩:api_Pair)]),x18.2.2.2⟩:api_Image))) (cond (x19 == 11) (cond (decide ((x18.2.2.2.length:Int) > 0)) ((oH_Pick (IntKind.i64.wrap (Int.tdiv bend 14)) 14).bind fun (x24:Int)=>(getI x18.2.2.2 0).bind fun (x25:api_Sess)=>some (⟨x18.1,x18.2.1,x18.2.2.1,(x18.2.2.2.set (0:Int).toNat (⟨x25.Client,x25.Seq,(⟨(IntKind.i64.wrap (x24 - 1)),x25.Answer.Value⟩:api_Answer)⟩:api_Sess))⟩:api_Image)) (some (⟨x18.1,x18.2.1,x18.2.2.1,x18.2.2.2⟩:api_Image))) (cond (x19 == 12) (cond (decide ((x18.2.2.1.length:Int) > 1)) ((getI x18.2.2.1 0).bind fun (x26:api_Pair)=>(getI x18.2.2.1 1).bind fun (x27:api_Pair)=>(getI x18.2.2.1 0).bind fun (x28:api_Pair)=>(getI (x18.2.2.1.set (0:Int).toNat x27) 1).bind fun (x29:api_Pair)=>some (⟨x18.1,x18.2.1,((x18.2.2.1.set (0:Int).toNat x27).set (1:Int).toNat x26),x18.2.2.2⟩:api_Image)) (some (⟨x18.1,x18.2.1,x18.2.2.1,x18.2.2.2⟩:api_Image))) (cond (x19 == 13) (some (⟨0,0,[],[]⟩:api_Image)) (some (⟨x18.1,x18.2.1,x18.2.2.1,x18.2.2.2⟩:api_Image)))))))
def out_oH_Image (k:Int) (epoch:Int) (l:List oH_RawOp) (bend:Int) (r:api_Image):AV × WH:=((.agg (e_api_Image r)),[])
theorem s_oH_Image (d:Nat) {k:Int} {epoch:Int} {l:List oH_RawOp} {bend:Int} {r:api_Image} (h:oH_Image k epoch l bend=some r):Spec (wcalls atab (d+5)) 74 [(.int .i64 k),(.int .i64 epoch),(l_oH_RawOp l),(.int .i64 bend)] [] (out_oH_Image k epoch l bend r).1 (out_oH_Image k epoch l bend r).2:=by
  obtain ⟨x1,hx1⟩:=wx (oH_Pick k 6)
  obtain ⟨x2,hx2⟩:=wx (oH_Pick epoch 6)
  obtain ⟨x3,hx3⟩:=wx (oR_ShardFrom (⟨x1,(IntKind.i64.wrap (1+x2)),[],[]⟩:api_Image))
  obtain ⟨x17,hx17⟩:=wx (oH_Image_L1 l bend (0,x3))
  obtain ⟨x18,hx18⟩:=wx (oR_Shard_Image_2 x17)
  obtain ⟨x19,hx19⟩:=wx (oH_Pick bend 14)
  obtain ⟨x20,hx20⟩:=wx (oH_Num (IntKind.i64.wrap (Int.tdiv bend 14)))
  obtain ⟨x21,hx21⟩:=wx (oH_Num (IntKind.i64.wrap (Int.tdiv bend 14)))
  obtain ⟨x22,hx22⟩:=wx (oH_Key (IntKind.i64.wrap (Int.tdiv bend 14)))
  obtain ⟨x24,hx24⟩:=wx (oH_Pick (IntKind.i64.wrap (Int.tdiv bend 14)) 14)
  obtain ⟨x25,hx25⟩:=wx (getI x18.2.2.2 0)
  obtain ⟨x26,hx26⟩:=wx (getI x18.2.2.1 0)
  obtain ⟨x27,hx27⟩:=wx (getI x18.2.2.1 1)
  obtain ⟨x28,hx28⟩:=wx (getI x18.2.2.1 0)
  obtain ⟨x29,hx29⟩:=wx (getI (x18.2.2.1.set (0:Int).toNat x27) 1)
  have e:∀ C:ACalls,wBody C (fun _=>none) KK WF74 [(.int .i64 k),(.int .i64 epoch),(l_oH_RawOp l),(.int .i64 bend)] [] (.z 8 [.undef,.undef,.slice none 2 0 0 true,.slice none 4 0 0 true] (.cb [] [] (.int .i64 x1) (.cb [] [] (.int .i64 x2) (.z 19 [.agg [.undef,.undef,.slice none 2 0 0 true,.slice none 4 0 0 true]] (.call [] (some false) [.agg [.undef,.undef,.slice none 2 0 0 true,.slice none 4 0 0 true]] (.ptr (some (0,0))) [(some (.cells (e_oR_Shard x3) false false))] (.lp [none,none,none,none,none] [] [.slice none 8 0 0 true,.undef,.undef,.undef,.undef] (.exit 0) [(3,(.int .i64 bend)),(8,(.ptr (some (0,0)))),(9,(.ptr (some (1,0))))] [(some (.cells [(.int .i64 0),(.int .i64 0),(.slice none 2 0 0 true),(.slice none 4 0 0 true)] false false)),(some (.cells (e_oR_Shard x17) false false))] (.call [(some false)] none [] (.agg [(.int .i64 x18.1),(.int .i64 x18.2.1),(.acc 1 0 2 x18.2.2.1.length true),(.acc 2 0 4 x18.2.2.2.length true)]) [(some (.cells (e_oR_Shard x17) false false)),(some (.cells (F_api_Pair x18.2.2.1) false true)),(some (.cells (F_api_Sess x18.2.2.2) false true))] (.z 12 [.undef,.undef,.slice none 2 0 0 true,.slice none 4 0 0 true] (.st none (.cb [] [] (.int .i64 x19) (.br 49 (.cb [] [] (.int .i64 x20) (.st none (.st none (.fin (some false) [.agg [.undef,.undef,.slice none 2 0 0 true,.slice none 4 0 0 true]] none)))) (.br 55 (.cb [] [] (.int .i64 x21) (.st none (.st none (.fin (some false) [.agg [.undef,.undef,.slice none 2 0 0 true,.slice none 4 0 0 true]] none)))) (.br 62 (.cb [] [] (.str x22) (.ap 71 (x18.2.2.1 ++ [(⟨x22,[118]⟩:api_Pair)]).length (F_api_Pair (x18.2.2.1 ++ [(⟨x22,[118]⟩:api_Pair)])) (.st none (.st none (.fin (some false) [.agg [.undef,.undef,.slice none 2 0 0 true,.slice none 4 0 0 true]] none))))) (.br 73 (.br 78 (.cb [] [] (.int .i64 x24) (.v 85 (.ptr (some (3,0+(0:Int).toNat * 4))) (.st (some (F_api_Sess (x18.2.2.2.set (0:Int).toNat (⟨x25.Client,x25.Seq,(⟨(IntKind.i64.wrap (x24 - 1)),x25.Answer.Value⟩:api_Answer)⟩:api_Sess)))) (.st none (.fin (some false) [.agg [.undef,.undef,.slice none 2 0 0 true,.slice none 4 0 0 true]] none))))) (.st none (.fin (some false) [.agg [.undef,.undef,.slice none 2 0 0 true,.slice none 4 0 0 true]] none))) (.br 88 (.br 93 (.v 96 (.ptr (some (2,0+(0:Int).toNat * 2))) (.v 97 (.agg (e_api_Pair x26)) (.st none (.v 102 (.ptr (some (2,0+(1:Int).toNat * 2))) (.v 103 (.agg (e_api_Pair x27)) (.v 104 (.ptr (some (2,0+(0:Int).toNat * 2))) (.st (some (F_api_Pair (x18.2.2.1.set (0:Int).toNat x27))) (.v 108 (.ptr (some (2,0+(1:Int).toNat * 2))) (.st (some (F_api_Pair ((x18.2.2.1.set (0:Int).toNat x27).set (1:Int).toNat x26))) (.st none (.fin (some false) [.agg [.undef,.undef,.slice none 2 0 0 true,.slice none 4 0 0 true]] none))))))))))) (.st none (.fin (some false) [.agg [.undef,.undef,.slice none 2 0 0 true,.slice none 4 0 0 true]] none))) (.br 109 (.z 111 [.agg [.undef,.undef,.slice none 2 0 0 true,.slice none 4 0 0 true]] (.st none (.st none (.fin (some false) [.agg [.undef,.undef,.slice none 2 0 0 true,.slice none 4 0 0 true]] none)))) (.st none (.fin (some false) [.agg [.undef,.undef,.slice none 2 0 0 true,.slice none 4 0 0 true]] none)))))))))))))))))) (out_oH_Image k epoch l bend r).1 (out_oH_Image k epoch l bend r).2=(4=4∧4≤113∧(Spec C 28 [(.int .i64 k),(.int .i64 6)] [] (.int .i64 x1) []∧(Spec C 28 [(.int .i64 epoch),(.int .i64 6)] [] (.int .i64 x2) []∧(Spec C 76 [(.agg (e_api_Image (⟨x1,(IntKind.i64.wrap (1+x2)),[],[]⟩:api_Image)))] [] (.ptr (some (0,0))) [(some (.cells (e_oR_Shard x3) false false))]∧(0≤1∧(RunS (bloop (bexec C KK 113 WB74_0) [2,3,8,9,10] KK) 0 [(2,(l_oH_RawOp l)),(3,(.int .i64 bend)),(8,(.ptr (some (0,0)))),(9,(.ptr (some (1,0)))),(10,(.int .i64 0))] [(some (.cells [(.int .i64 0),(.int .i64 0),(.slice none 2 0 0 true),(.slice none 4 0 0 true)] false false)),(some (.cells (e_oR_Shard x3) false false))] (.exit 0) [(3,(.int .i64 bend)),(8,(.ptr (some (0,0)))),(9,(.ptr (some (1,0))))] [(some (.cells [(.int .i64 0),(.int .i64 0),(.slice none 2 0 0 true),(.slice none 4 0 0 true)] false false)),(some (.cells (e_oR_Shard x17) false false))]∧(Spec C 79 [(.ptr (some (0,0)))] [(some (.cells (e_oR_Shard x17) false false))] (.agg [(.int .i64 x18.1),(.int .i64 x18.2.1),(.acc 1 0 2 x18.2.2.1.length true),(.acc 2 0 4 x18.2.2.2.length true)]) [(some (.cells (e_oR_Shard x17) false false)),(some (.cells (F_api_Pair x18.2.2.1) false true)),(some (.cells (F_api_Sess x18.2.2.2) false true))]∧(1≤3∧(Spec C 28 [(.int .i64 bend),(.int .i64 14)] [] (.int .i64 x19) []∧(((x19 == 8)=true→(Spec C 103 [(.int .i64 (IntKind.i64.wrap (Int.tdiv bend 14)))] [] (.int .i64 x20) []∧lff (out_oH_Image k epoch l bend) (⟨x20,x18.2.1,x18.2.2.1,x18.2.2.2⟩:api_Image) r))∧((x19 == 8)=false→(((x19 == 9)=true→(Spec C 103 [(.int .i64 (IntKind.i64.wrap (Int.tdiv bend 14)))] [] (.int .i64 x21) []∧lff (out_oH_Image k epoch l bend) (⟨x18.1,(IntKind.i64.wrap (x21 - 1)),x18.2.2.1,x18.2.2.2⟩:api_Image) r))∧((x19 == 9)=false→(((x19 == 10)=true→(Spec C 58 [(.int .i64 (IntKind.i64.wrap (Int.tdiv bend 14)))] [] (.str x22) []∧(x18.2.2.1.length+1=(x18.2.2.1 ++ [(⟨x22,[118]⟩:api_Pair)]).length∧(F_api_Pair x18.2.2.1 ++ F_api_Pair ([(⟨x22,[118]⟩:api_Pair)])=F_api_Pair (x18.2.2.1 ++ [(⟨x22,[118]⟩:api_Pair)])∧(fitsB 32 (x18.2.2.1 ++ [(⟨x22,[118]⟩:api_Pair)]).length=true∧lff (out_oH_Image k epoch l bend) (⟨x18.1,x18.2.1,(x18.2.2.1 ++ [(⟨x22,[118]⟩:api_Pair)]),x18.2.2.2⟩:api_Image) r)))))∧((x19 == 10)=false→(((x19 == 11)=true→(((decide ((x18.2.2.2.length:Int) > 0))=true→(Spec C 28 [(.int .i64 (IntKind.i64.wrap (Int.tdiv bend 14))),(.int .i64 14)] [] (.int .i64 x24) []∧(wP (.idxSlice 4 (.c (.acc 3 0 4 x18.2.2.2.length true)) (.c (.int .i64 0)))=some (.ptr (some (3,0+(0:Int).toNat * 4)))∧(wrC (F_api_Sess x18.2.2.2) (0+(0:Int).toNat * 4+2) [(.int .i64 (IntKind.i64.wrap (x24 - 1)))]=some (F_api_Sess (x18.2.2.2.set (0:Int).toNat (⟨x25.Client,x25.Seq,(⟨(IntKind.i64.wrap (x24 - 1)),x25.Answer.Value⟩:api_Answer)⟩:api_Sess)))∧(@Eq AV (.agg [(.int .i64 x18.1),(.int .i64 x18.2.1),(l_api_Pair x18.2.2.1),(.list 4 x18.2.2.2.length (F_api_Sess (x18.2.2.2.set (0:Int).toNat (⟨x25.Client,x25.Seq,(⟨(IntKind.i64.wrap (x24 - 1)),x25.Answer.Value⟩:api_Answer)⟩:api_Sess))) false)]) (out_oH_Image k epoch l bend r).1∧@Eq WH [] (out_oH_Image k epoch l bend r).2)))))∧((decide ((x18.2.2.2.length:Int) > 0))=false→lff (out_oH_Image k epoch l bend) (⟨x18.1,x18.2.1,x18.2.2.1,x18.2.2.2⟩:api_Image) r)))∧((x19 == 11)=false→(((x19 == 12)=true→(((decide ((x18.2.2.1.length:Int) > 1))=true→(wP (.idxSlice 2 (.c (.acc 2 0 2 x18.2.2.1.length true)) (.c (.int .i64 0)))=some (.ptr (some (2,0+(0:Int).toNat * 2)))∧(cPart true (0+(0:Int).toNat * 2) 2 (F_api_Pair x18.2.2.1)=some (.agg (e_api_Pair x26))∧(wP (.idxSlice 2 (.c (.acc 2 0 2 x18.2.2.1.length true)) (.c (.int .i64 1)))=some (.ptr (some (2,0+(1:Int).toNat * 2)))∧(cPart true (0+(1:Int).toNat * 2) 2 (F_api_Pair x18.2.2.1)=some (.agg (e_api_Pair x27))∧(wP (.idxSlice 2 (.c (.acc 2 0 2 x18.2.2.1.length true)) (.c (.int .i64 0)))=some (.ptr (some (2,0+(0:Int).toNat * 2)))∧(wrC (F_api_Pair x18.2.2.1) (0+(0:Int).toNat * 2) [(.str x27.Key),(.str x27.Value)]=some (F_api_Pair (x18.2.2.1.set (0:Int).toNat x27))∧(wP (.idxSlice 2 (.c (.acc 2 0 2 x18.2.2.1.length true)) (.c (.int .i64 1)))=some (.ptr (some (2,0+(1:Int).toNat * 2)))∧(wrC (F_api_Pair (x18.2.2.1.set (0:Int).toNat x27)) (0+(1:Int).toNat * 2) [(.str x26.Key),(.str x26.Value)]=some (F_api_Pair ((x18.2.2.1.set (0:Int).toNat x27).set (1:Int).toNat x26))∧(@Eq AV (.agg [(.int .i64 x18.1),(.int .i64 x18.2.1),(.list 2 x18.2.2.1.length (F_api_Pair ((x18.2.2.1.set (0:Int).toNat x27).set (1:Int).toNat x26)) false),(l_api_Sess x18.2.2.2)]) (out_oH_Image k epoch l bend r).1∧@Eq WH [] (out_oH_Image k epoch l bend r).2))))))))))∧((decide ((x18.2.2.1.length:Int) > 1))=false→lff (out_oH_Image k epoch l bend) (⟨x18.1,x18.2.1,x18.2.2.1,x18.2.2.2⟩:api_Image) r)))∧((x19 == 12)=false→(((x19 == 13)=true→lff (out_oH_Image k epoch l bend) (⟨0,0,[],[]⟩:api_Image) r)∧((x19 == 13)=false→lff (out_oH_Image k epoch l bend) (⟨x18.1,x18.2.1,x18.2.2.1,x18.2.2.2⟩:api_Image) r))))))))))))))))))))):=fun C=>by kernel_rfl
  refine spec_of (fun _ _ h=>by cases h) rfl atab_74 WF74_ok ((e _).mpr ⟨rfl,by decide, ?_⟩)
  unfold oH_Image at h
  obtain ⟨q1,h⟩:=bget hx1 h
  refine ⟨s_oH_Pick (d+3) q1, ?_⟩
  obtain ⟨q2,h⟩:=bget hx2 h
  refine ⟨s_oH_Pick (d+3) q2, ?_⟩
  obtain ⟨q3,h⟩:=bget hx3 h
  refine ⟨s_oR_ShardFrom (d+0) q3, ?_⟩
  refine ⟨by decide, ?_⟩
  obtain ⟨q17,h⟩:=bget hx17 h
  refine ⟨s_oH_Image_L1 (d+0) q17, ?_⟩
  obtain ⟨q18,h⟩:=bget hx18 h
  refine ⟨s_oR_Shard_Image_2 (d+3) q18, ?_⟩
  refine ⟨by decide, ?_⟩
  obtain ⟨q19,h⟩:=bget hx19 h
  refine ⟨s_oH_Pick (d+3) q19, ?_⟩
  refine ⟨fun hb=>?_,fun hb=>?_⟩
  · have h:=cond_t hb h
    obtain ⟨q20,h⟩:=bget hx20 h
    refine ⟨s_oH_Num (d+2) q20, ?_⟩
    exact lff_of h
  · have h:=cond_f hb h
    refine ⟨fun hb=>?_,fun hb=>?_⟩
    · have h:=cond_t hb h
      obtain ⟨q21,h⟩:=bget hx21 h
      refine ⟨s_oH_Num (d+2) q21, ?_⟩
      exact lff_of h
    · have h:=cond_f hb h
      refine ⟨fun hb=>?_,fun hb=>?_⟩
      · have h:=cond_t hb h
        obtain ⟨q22,h⟩:=bget hx22 h
        refine ⟨s_oH_Key (d+2) q22, ?_⟩
        obtain ⟨q23,h⟩:=gd_some h
        refine ⟨by simp, ?_⟩
        refine ⟨(Row.app R_api_Pair _ _).symm, ?_⟩
        refine ⟨q23, ?_⟩
        exact lff_of h
      · have h:=cond_f hb h
        refine ⟨fun hb=>?_,fun hb=>?_⟩
        · have h:=cond_t hb h
          refine ⟨fun hb=>?_,fun hb=>?_⟩
          · have h:=cond_t hb h
            obtain ⟨q24,h⟩:=bget hx24 h
            refine ⟨s_oH_Pick (d+3) q24, ?_⟩
            obtain ⟨q25,h⟩:=bget hx25 h
            refine ⟨wP_idxA R_api_Sess q25, ?_⟩
            refine ⟨wr_row (o:=2) R_api_Sess q25 rfl, ?_⟩
            try rw [show AV.list 4 x18.2.2.2.length (F_api_Sess (x18.2.2.2.set (0:Int).toNat (⟨x25.Client,x25.Seq,(⟨(IntKind.i64.wrap (x24 - 1)),x25.Answer.Value⟩:api_Answer)⟩:api_Sess))) false=l_api_Sess (x18.2.2.2.set (0:Int).toNat (⟨x25.Client,x25.Seq,(⟨(IntKind.i64.wrap (x24 - 1)),x25.Answer.Value⟩:api_Answer)⟩:api_Sess)) from by simp only [l_api_Sess,List.length_set]]
            obtain rfl:=Option.some.inj h
            refine ⟨?_, ?_⟩ <;> first | rfl | (simp only [out_oH_Image,List.length_set,List.length_append,List.length_replicate,List.length_cons,List.length_nil,List.length_take,List.length_drop,Nat.add_zero,Nat.zero_add]; done) | simp [out_oH_Image]
          · have h:=cond_f hb h
            exact lff_of h
        · have h:=cond_f hb h
          refine ⟨fun hb=>?_,fun hb=>?_⟩
          · have h:=cond_t hb h
            refine ⟨fun hb=>?_,fun hb=>?_⟩
            · have h:=cond_t hb h
              obtain ⟨q26,h⟩:=bget hx26 h
              refine ⟨wP_idxA R_api_Pair q26, ?_⟩
              refine ⟨cP_row (o:=0) R_api_Pair q26 rfl, ?_⟩
              obtain ⟨q27,h⟩:=bget hx27 h
              refine ⟨wP_idxA R_api_Pair q27, ?_⟩
              refine ⟨cP_row (o:=0) R_api_Pair q27 rfl, ?_⟩
              obtain ⟨q28,h⟩:=bget hx28 h
              refine ⟨wP_idxA R_api_Pair q28, ?_⟩
              refine ⟨wr_row (o:=0) R_api_Pair q28 rfl, ?_⟩
              try rw [show AV.list 2 x18.2.2.1.length (F_api_Pair (x18.2.2.1.set (0:Int).toNat x27)) false=l_api_Pair (x18.2.2.1.set (0:Int).toNat x27) from by simp only [l_api_Pair,List.length_set]]
              obtain ⟨q29,h⟩:=bget hx29 h
              refine ⟨by rw [show (x18.2.2.1.length:Nat)=(x18.2.2.1.set (0:Int).toNat x27).length from by simp only [List.length_set,List.length_append,List.length_replicate]]; exact wP_idxA R_api_Pair q29, ?_⟩
              refine ⟨wr_row (o:=0) R_api_Pair q29 rfl, ?_⟩
              try rw [show AV.list 2 x18.2.2.1.length (F_api_Pair ((x18.2.2.1.set (0:Int).toNat x27).set (1:Int).toNat x26)) false=l_api_Pair ((x18.2.2.1.set (0:Int).toNat x27).set (1:Int).toNat x26) from by simp only [l_api_Pair,List.length_set]]
              obtain rfl:=Option.some.inj h
              refine ⟨?_, ?_⟩ <;> first | rfl | (simp only [out_oH_Image,List.length_set,List.length_append,List.length_replicate,List.length_cons,List.length_nil,List.length_take,List.length_drop,Nat.add_zero,Nat.zero_add]; done) | simp [out_oH_Image]
            · have h:=cond_f hb h
              exact lff_of h
          · have h:=cond_f hb h
            refine ⟨fun hb=>?_,fun hb=>?_⟩
            · have h:=cond_t hb h
              exact lff_of h
            · have h:=cond_f hb h
              exact lff_of h
abbrev in_oR_SameImage_J0 (a:api_Image) (p_b:api_Image):Fast × WH:=([(2,(.ptr (some (0,0)))),(3,(.ptr (some (1,0))))],[(some (.cells (e_api_Image a) false false)),(some (.cells (e_api_Image p_b) false false))])
def fin_oR_SameImage_J0 (a:api_Image) (p_b:api_Image):Unit ⊕ Unit→Ex × Fast × WH:=fun
  | .inl e=>(.ret,[(4,(.bool false))],[])
  | .inr e=>(.normal,[(2,(.ptr (some (0,0)))),(3,(.ptr (some (1,0))))],[(some (.cells (e_api_Image a) false false)),(some (.cells (e_api_Image p_b) false false))])
def oR_SameImage_J0 (a:api_Image) (p_b:api_Image):Option (Unit ⊕ Unit) :=
  cond (a.Shard != p_b.Shard) (some (.inl ())) (cond (a.Epoch != p_b.Epoch) (some (.inl ())) (cond ((a.Pairs.length:Int) != (p_b.Pairs.length:Int)) (some (.inl ())) (cond ((a.Sess.length:Int) != (p_b.Sess.length:Int)) (some (.inl ())) (some (.inr ())))))
theorem s_oR_SameImage_J0 (d:Nat) {a:api_Image} {p_b:api_Image} {r:Unit ⊕ Unit} (h:oR_SameImage_J0 a p_b=some r):RunX (bexec (wcalls atab (d+0)) KK 73 WJ68_ba) 0 (in_oR_SameImage_J0 a p_b) (fin_oR_SameImage_J0 a p_b r):=by
  have e:∀ C:ACalls,wCode C (fun _=>none) KK 73 0 WJ68_ba (in_oR_SameImage_J0 a p_b).1 (in_oR_SameImage_J0 a p_b).2 (.br 12 (.en [4] [none] [] []) (.br 19 (.en [4] [none] [] []) (.br 28 (.en [4] [none] [] []) (.br 36 (.en [4] [none] [] []) (.en [2,3] [none,none] [] []))))) (fin_oR_SameImage_J0 a p_b r)=(((a.Shard != p_b.Shard)=true→lfe (fin_oR_SameImage_J0 a p_b) (.inl ()) r)∧((a.Shard != p_b.Shard)=false→(((a.Epoch != p_b.Epoch)=true→lfe (fin_oR_SameImage_J0 a p_b) (.inl ()) r)∧((a.Epoch != p_b.Epoch)=false→((((a.Pairs.length:Int) != (p_b.Pairs.length:Int))=true→lfe (fin_oR_SameImage_J0 a p_b) (.inl ()) r)∧(((a.Pairs.length:Int) != (p_b.Pairs.length:Int))=false→((((a.Sess.length:Int) != (p_b.Sess.length:Int))=true→lfe (fin_oR_SameImage_J0 a p_b) (.inl ()) r)∧(((a.Sess.length:Int) != (p_b.Sess.length:Int))=false→lfe (fin_oR_SameImage_J0 a p_b) (.inr ()) r)))))))):=fun C=>by kernel_rfl
  refine runS_of (fun _ _ h=>by cases h) WJ68_ba_ok (Nat.le_of_ble_eq_true rfl) ((e _).mpr ?_)
  unfold oR_SameImage_J0 at h
  refine ⟨fun hb=>?_,fun hb=>?_⟩
  · have h:=cond_t hb h
    exact lfe_of h
  · have h:=cond_f hb h
    refine ⟨fun hb=>?_,fun hb=>?_⟩
    · have h:=cond_t hb h
      exact lfe_of h
    · have h:=cond_f hb h
      refine ⟨fun hb=>?_,fun hb=>?_⟩
      · have h:=cond_t hb h
        exact lfe_of h
      · have h:=cond_f hb h
        refine ⟨fun hb=>?_,fun hb=>?_⟩
        · have h:=cond_t hb h
          exact lfe_of h
        · have h:=cond_f hb h
          exact lfe_of h
def st_oR_SameImage_L1 (a:api_Image) (p_b:api_Image) (s5:Int):List AV × WH:=([(.ptr (some (0,0))),(.ptr (some (1,0))),(.int .i64 s5)],[(some (.cells (e_api_Image a) false false)),(some (.cells (e_api_Image p_b) false false))])
def fin_oR_SameImage_L1 (a:api_Image) (p_b:api_Image):Unit ⊕ Unit→Ex × Fast × WH:=fun
  | .inl e=>(.ret,[(4,(.bool false))],[])
  | .inr e=>((.exit 0),[(2,(.ptr (some (0,0)))),(3,(.ptr (some (1,0))))],[(some (.cells (e_api_Image a) false false)),(some (.cells (e_api_Image p_b) false false))])
abbrev rx_oR_SameImage_L1 (a:api_Image) (p_b:api_Image):=roundX [2,3,5] (st_oR_SameImage_L1 a p_b) (fin_oR_SameImage_L1 a p_b)
def oR_SameImage_L1_s (a:api_Image) (p_b:api_Image) (s5:Int):Option ((Int) ⊕ (Unit ⊕ Unit)) :=
  cond (decide (s5 < (a.Pairs.length:Int))) ((getI a.Pairs s5).bind fun (x6:api_Pair)=>(getI p_b.Pairs s5).bind fun (x7:api_Pair)=>cond (!(x6.Key == x7.Key && (x6.Value == x7.Value && true))) (some (.inr (.inl ()))) (some (.inl (IntKind.i64.wrap (s5+1))))) (some (.inr (.inr ())))
def oR_SameImage_L1 (a:api_Image) (p_b:api_Image) (s5:Int):Option (Unit ⊕ Unit):=loopX (oR_SameImage_L1_s a p_b) KK s5
theorem b_oR_SameImage_L1 (d:Nat) {a:api_Image} {p_b:api_Image} {s5:Int} {r:(Int) ⊕ (Unit ⊕ Unit)} (h:oR_SameImage_L1_s a p_b s5=some r):RunX (bexec (wcalls atab (d+0)) KK 73 WB68_0) 0 (inL [2,3,5] (st_oR_SameImage_L1 a p_b s5)) (rx_oR_SameImage_L1 a p_b r):=by
  obtain ⟨x6,hx6⟩:=wx (getI a.Pairs s5)
  obtain ⟨x7,hx7⟩:=wx (getI p_b.Pairs s5)
  have e:∀ C:ACalls,wCode C (fun _=>none) KK 73 0 WB68_0 (inL [2,3,5] (st_oR_SameImage_L1 a p_b s5)).1 (inL [2,3,5] (st_oR_SameImage_L1 a p_b s5)).2 (.br 41 (.v 47 (.elem ((e_api_Pair x6) ++ F_api_Pair (a.Pairs.drop (s5.toNat+1)))) (.v 52 (.elem ((e_api_Pair x7) ++ F_api_Pair (p_b.Pairs.drop (s5.toNat+1)))) (.br 54 (.en [4] [none] [] []) (.en [2,3,5] [none,none,none] [] [])))) (.en [2,3] [none,none] [] [])) (rx_oR_SameImage_L1 a p_b r)=(((decide (s5 < (a.Pairs.length:Int)))=true→(wP (.idxSlice 2 (.c (l_api_Pair a.Pairs)) (.c (.int .i64 s5)))=some (.elem ((e_api_Pair x6) ++ F_api_Pair (a.Pairs.drop (s5.toNat+1))))∧(wP (.idxSlice 2 (.c (l_api_Pair p_b.Pairs)) (.c (.int .i64 s5)))=some (.elem ((e_api_Pair x7) ++ F_api_Pair (p_b.Pairs.drop (s5.toNat+1))))∧(((!(x6.Key == x7.Key && (x6.Value == x7.Value && true)))=true→lfe (rx_oR_SameImage_L1 a p_b) (.inr (.inl ())) r)∧((!(x6.Key == x7.Key && (x6.Value == x7.Value && true)))=false→lfe (rx_oR_SameImage_L1 a p_b) (.inl (IntKind.i64.wrap (s5+1))) r)))))∧((decide (s5 < (a.Pairs.length:Int)))=false→lfe (rx_oR_SameImage_L1 a p_b) (.inr (.inr ())) r)):=fun C=>by kernel_rfl
  refine runS_of (fun _ _ h=>by cases h) WB68_0_ok (Nat.le_of_ble_eq_true rfl) ((e _).mpr ?_)
  unfold oR_SameImage_L1_s at h
  refine ⟨fun hb=>?_,fun hb=>?_⟩
  · have h:=cond_t hb h
    obtain ⟨q6,h⟩:=bget hx6 h
    refine ⟨wP_idx R_api_Pair q6, ?_⟩
    obtain ⟨q7,h⟩:=bget hx7 h
    refine ⟨wP_idx R_api_Pair q7, ?_⟩
    refine ⟨fun hb=>?_,fun hb=>?_⟩
    · have h:=cond_t hb h
      exact lfe_of h
    · have h:=cond_f hb h
      exact lfe_of h
  · have h:=cond_f hb h
    exact lfe_of h
theorem s_oR_SameImage_L1 (d:Nat) {a:api_Image} {p_b:api_Image} {s5:Int} {r:Unit ⊕ Unit} (h:oR_SameImage_L1 a p_b s5=some r):RunX (bloop (bexec (wcalls atab (d+0)) KK 73 WB68_0) [2,3,5] KK) 0 (inL [2,3,5] (st_oR_SameImage_L1 a p_b s5)) (fin_oR_SameImage_L1 a p_b r) :=
  loop_of (st:=st_oR_SameImage_L1 a p_b) (fin:=fin_oR_SameImage_L1 a p_b) (step:=oR_SameImage_L1_s a p_b) (fun e=>by rcases e with e | e <;> (intro h; cases h)) (fun s x h=>b_oR_SameImage_L1 d h) KK s5 r h
def st_oR_SameImage_L2 (a:api_Image) (p_b:api_Image) (s12:Int):List AV × WH:=([(.ptr (some (0,0))),(.ptr (some (1,0))),(.int .i64 s12)],[(some (.cells (e_api_Image a) false false)),(some (.cells (e_api_Image p_b) false false))])
def fin_oR_SameImage_L2 (a:api_Image) (p_b:api_Image):Unit ⊕ Unit→Ex × Fast × WH:=fun
  | .inl e=>(.ret,[(4,(.bool false))],[])
  | .inr e=>((.exit 2),[],[])
abbrev rx_oR_SameImage_L2 (a:api_Image) (p_b:api_Image):=roundX [2,3,6] (st_oR_SameImage_L2 a p_b) (fin_oR_SameImage_L2 a p_b)
def oR_SameImage_L2_s (a:api_Image) (p_b:api_Image) (s12:Int):Option ((Int) ⊕ (Unit ⊕ Unit)) :=
  cond (decide (s12 < (a.Sess.length:Int))) ((getI a.Sess s12).bind fun (x13:api_Sess)=>(getI p_b.Sess s12).bind fun (x14:api_Sess)=>cond (!(x13.Client == x14.Client && (x13.Seq == x14.Seq && (x13.Answer.Why == x14.Answer.Why && (x13.Answer.Value == x14.Answer.Value && true))))) (some (.inr (.inl ()))) (some (.inl (IntKind.i64.wrap (s12+1))))) (some (.inr (.inr ())))
def oR_SameImage_L2 (a:api_Image) (p_b:api_Image) (s12:Int):Option (Unit ⊕ Unit):=loopX (oR_SameImage_L2_s a p_b) KK s12
theorem b_oR_SameImage_L2 (d:Nat) {a:api_Image} {p_b:api_Image} {s12:Int} {r:(Int) ⊕ (Unit ⊕ Unit)} (h:oR_SameImage_L2_s a p_b s12=some r):RunX (bexec (wcalls atab (d+0)) KK 73 WB68_1) 0 (inL [2,3,6] (st_oR_SameImage_L2 a p_b s12)) (rx_oR_SameImage_L2 a p_b r):=by
  obtain ⟨x13,hx13⟩:=wx (getI a.Sess s12)
  obtain ⟨x14,hx14⟩:=wx (getI p_b.Sess s12)
  have e:∀ C:ACalls,wCode C (fun _=>none) KK 73 0 WB68_1 (inL [2,3,6] (st_oR_SameImage_L2 a p_b s12)).1 (inL [2,3,6] (st_oR_SameImage_L2 a p_b s12)).2 (.br 59 (.v 65 (.elem ((e_api_Sess x13) ++ F_api_Sess (a.Sess.drop (s12.toNat+1)))) (.v 70 (.elem ((e_api_Sess x14) ++ F_api_Sess (p_b.Sess.drop (s12.toNat+1)))) (.br 72 (.en [4] [none] [] []) (.en [2,3,6] [none,none,none] [] [])))) (.en [] [] [] [])) (rx_oR_SameImage_L2 a p_b r)=(((decide (s12 < (a.Sess.length:Int)))=true→(wP (.idxSlice 4 (.c (l_api_Sess a.Sess)) (.c (.int .i64 s12)))=some (.elem ((e_api_Sess x13) ++ F_api_Sess (a.Sess.drop (s12.toNat+1))))∧(wP (.idxSlice 4 (.c (l_api_Sess p_b.Sess)) (.c (.int .i64 s12)))=some (.elem ((e_api_Sess x14) ++ F_api_Sess (p_b.Sess.drop (s12.toNat+1))))∧(((!(x13.Client == x14.Client && (x13.Seq == x14.Seq && (x13.Answer.Why == x14.Answer.Why && (x13.Answer.Value == x14.Answer.Value && true)))))=true→lfe (rx_oR_SameImage_L2 a p_b) (.inr (.inl ())) r)∧((!(x13.Client == x14.Client && (x13.Seq == x14.Seq && (x13.Answer.Why == x14.Answer.Why && (x13.Answer.Value == x14.Answer.Value && true)))))=false→lfe (rx_oR_SameImage_L2 a p_b) (.inl (IntKind.i64.wrap (s12+1))) r)))))∧((decide (s12 < (a.Sess.length:Int)))=false→lfe (rx_oR_SameImage_L2 a p_b) (.inr (.inr ())) r)):=fun C=>by kernel_rfl
  refine runS_of (fun _ _ h=>by cases h) WB68_1_ok (Nat.le_of_ble_eq_true rfl) ((e _).mpr ?_)
  unfold oR_SameImage_L2_s at h
  refine ⟨fun hb=>?_,fun hb=>?_⟩
  · have h:=cond_t hb h
    obtain ⟨q13,h⟩:=bget hx13 h
    refine ⟨wP_idx R_api_Sess q13, ?_⟩
    obtain ⟨q14,h⟩:=bget hx14 h
    refine ⟨wP_idx R_api_Sess q14, ?_⟩
    refine ⟨fun hb=>?_,fun hb=>?_⟩
    · have h:=cond_t hb h
      exact lfe_of h
    · have h:=cond_f hb h
      exact lfe_of h
  · have h:=cond_f hb h
    exact lfe_of h
theorem s_oR_SameImage_L2 (d:Nat) {a:api_Image} {p_b:api_Image} {s12:Int} {r:Unit ⊕ Unit} (h:oR_SameImage_L2 a p_b s12=some r):RunX (bloop (bexec (wcalls atab (d+0)) KK 73 WB68_1) [2,3,6] KK) 0 (inL [2,3,6] (st_oR_SameImage_L2 a p_b s12)) (fin_oR_SameImage_L2 a p_b r) :=
  loop_of (st:=st_oR_SameImage_L2 a p_b) (fin:=fin_oR_SameImage_L2 a p_b) (step:=oR_SameImage_L2_s a p_b) (fun e=>by rcases e with e | e <;> (intro h; cases h)) (fun s x h=>b_oR_SameImage_L2 d h) KK s12 r h
def oR_SameImage (a:api_Image) (p_b:api_Image):Option (Bool) :=
  (oR_SameImage_J0 a p_b).bind fun (x1:Unit ⊕ Unit)=>cond (isL x1) (some false) ((oR_SameImage_L1 a p_b 0).bind fun (x8:Unit ⊕ Unit)=>cond (isL x8) (some false) ((oR_SameImage_L2 a p_b 0).bind fun (x15:Unit ⊕ Unit)=>cond (isL x15) (some false) (some true)))
def out_oR_SameImage (a:api_Image) (p_b:api_Image) (r:Bool):AV × WH:=((.bool r),[])
theorem s_oR_SameImage (d:Nat) {a:api_Image} {p_b:api_Image} {r:Bool} (h:oR_SameImage a p_b=some r):Spec (wcalls atab (d+1)) 68 [(.agg (e_api_Image a)),(.agg (e_api_Image p_b))] [] (out_oR_SameImage a p_b r).1 (out_oR_SameImage a p_b r).2:=by
  obtain ⟨x1,hx1⟩:=wx (oR_SameImage_J0 a p_b)
  obtain ⟨x8,hx8⟩:=wx (oR_SameImage_L1 a p_b 0)
  obtain ⟨x15,hx15⟩:=wx (oR_SameImage_L2 a p_b 0)
  have e:∀ C:ACalls,wBody C (fun _=>none) KK WF68 [(.agg (e_api_Image a)),(.agg (e_api_Image p_b))] [] (.sk (.ite (isL x1) (.jn [2,3] [none,none] [] [] .ret [(4,(.bool false))] [] (.fin (some false) [] none)) (.jn [2,3] [none,none] [] [] .normal [(2,(.ptr (some (0,0)))),(3,(.ptr (some (1,0))))] [(some (.cells (e_api_Image a) false false)),(some (.cells (e_api_Image p_b) false false))] (.ite (isL x8) (.lp [none,none,none] [] [] .ret [(4,(.bool false))] [] (.fin (some false) [] none)) (.lp [none,none,none] [] [] (.exit 0) [(2,(.ptr (some (0,0)))),(3,(.ptr (some (1,0))))] [(some (.cells (e_api_Image a) false false)),(some (.cells (e_api_Image p_b) false false))] (.ite (isL x15) (.lp [none,none,none] [] [] .ret [(4,(.bool false))] [] (.fin (some false) [] none)) (.lp [none,none,none] [] [] (.exit 2) [] [] (.fin (some false) [] none)))))))) (out_oR_SameImage a p_b r).1 (out_oR_SameImage a p_b r).2=(2=2∧2≤73∧(((isL x1)=true→(RunS (bexec C KK 73 WJ68_ba) 0 [(2,(.ptr (some (0,0)))),(3,(.ptr (some (1,0))))] [(some (.cells (e_api_Image a) false false)),(some (.cells (e_api_Image p_b) false false))] .ret [(4,(.bool false))] []∧lff (out_oR_SameImage a p_b) false r))∧((isL x1)=false→(RunS (bexec C KK 73 WJ68_ba) 0 [(2,(.ptr (some (0,0)))),(3,(.ptr (some (1,0))))] [(some (.cells (e_api_Image a) false false)),(some (.cells (e_api_Image p_b) false false))] .normal [(2,(.ptr (some (0,0)))),(3,(.ptr (some (1,0))))] [(some (.cells (e_api_Image a) false false)),(some (.cells (e_api_Image p_b) false false))]∧(((isL x8)=true→(RunS (bloop (bexec C KK 73 WB68_0) [2,3,5] KK) 0 [(2,(.ptr (some (0,0)))),(3,(.ptr (some (1,0)))),(5,(.int .i64 0))] [(some (.cells (e_api_Image a) false false)),(some (.cells (e_api_Image p_b) false false))] .ret [(4,(.bool false))] []∧lff (out_oR_SameImage a p_b) false r))∧((isL x8)=false→(RunS (bloop (bexec C KK 73 WB68_0) [2,3,5] KK) 0 [(2,(.ptr (some (0,0)))),(3,(.ptr (some (1,0)))),(5,(.int .i64 0))] [(some (.cells (e_api_Image a) false false)),(some (.cells (e_api_Image p_b) false false))] (.exit 0) [(2,(.ptr (some (0,0)))),(3,(.ptr (some (1,0))))] [(some (.cells (e_api_Image a) false false)),(some (.cells (e_api_Image p_b) false false))]∧(((isL x15)=true→(RunS (bloop (bexec C KK 73 WB68_1) [2,3,6] KK) 0 [(2,(.ptr (some (0,0)))),(3,(.ptr (some (1,0)))),(6,(.int .i64 0))] [(some (.cells (e_api_Image a) false false)),(some (.cells (e_api_Image p_b) false false))] .ret [(4,(.bool false))] []∧lff (out_oR_SameImage a p_b) false r))∧((isL x15)=false→(RunS (bloop (bexec C KK 73 WB68_1) [2,3,6] KK) 0 [(2,(.ptr (some (0,0)))),(3,(.ptr (some (1,0)))),(6,(.int .i64 0))] [(some (.cells (e_api_Image a) false false)),(some (.cells (e_api_Image p_b) false false))] (.exit 2) [] []∧lff (out_oR_SameImage a p_b) true r)))))))))):=fun C=>by kernel_rfl
  refine spec_of (fun _ _ h=>by cases h) rfl atab_68 WF68_ok ((e _).mpr ⟨rfl,by decide, ?_⟩)
  unfold oR_SameImage at h
  obtain ⟨q1,h⟩:=bget hx1 h
  refine ⟨fun hb2=>?_,fun hb2=>?_⟩
  · have h:=cond_t hb2 h
    refine ⟨by have h:=s_oR_SameImage_J0 (d+0) q1; rw [isL_t hb2] at h; exact h, ?_⟩
    exact lff_of h
  · have h:=cond_f hb2 h
    refine ⟨by have h:=s_oR_SameImage_J0 (d+0) q1; rw [isL_f hb2] at h; exact h, ?_⟩
    obtain ⟨q8,h⟩:=bget hx8 h
    refine ⟨fun hb9=>?_,fun hb9=>?_⟩
    · have h:=cond_t hb9 h
      refine ⟨by have h:=s_oR_SameImage_L1 (d+0) q8; rw [isL_t hb9] at h; exact h, ?_⟩
      exact lff_of h
    · have h:=cond_f hb9 h
      refine ⟨by have h:=s_oR_SameImage_L1 (d+0) q8; rw [isL_f hb9] at h; exact h, ?_⟩
      obtain ⟨q15,h⟩:=bget hx15 h
      refine ⟨fun hb16=>?_,fun hb16=>?_⟩
      · have h:=cond_t hb16 h
        refine ⟨by have h:=s_oR_SameImage_L2 (d+0) q15; rw [isL_t hb16] at h; exact h, ?_⟩
        exact lff_of h
      · have h:=cond_f hb16 h
        refine ⟨by have h:=s_oR_SameImage_L2 (d+0) q15; rw [isL_f hb16] at h; exact h, ?_⟩
        exact lff_of h
abbrev in_oR_RightImage_J0 (p_x:api_Image):Fast × WH:=([(1,(.ptr (some (0,0))))],[(some (.cells (e_api_Image p_x) false false))])
def fin_oR_RightImage_J0 (p_x:api_Image):Unit ⊕ Unit→Ex × Fast × WH:=fun
  | .inl e=>(.ret,[(2,(.bool false))],[])
  | .inr e=>(.normal,[(1,(.ptr (some (0,0))))],[(some (.cells (e_api_Image p_x) false false))])
def oR_RightImage_J0 (p_x:api_Image):Option (Unit ⊕ Unit) :=
  cond (decide (p_x.Shard < 0)) (some (.inl ())) (cond (decide (p_x.Shard ≥ 6)) (some (.inl ())) (cond (decide (p_x.Epoch < 1)) (some (.inl ())) (cond (decide (p_x.Epoch > 1099511627776)) (some (.inl ())) (some (.inr ())))))
theorem s_oR_RightImage_J0 (d:Nat) {p_x:api_Image} {r:Unit ⊕ Unit} (h:oR_RightImage_J0 p_x=some r):RunX (bexec (wcalls atab (d+0)) KK 113 WJ75_ba) 0 (in_oR_RightImage_J0 p_x) (fin_oR_RightImage_J0 p_x r):=by
  have e:∀ C:ACalls,wCode C (fun _=>none) KK 113 0 WJ75_ba (in_oR_RightImage_J0 p_x).1 (in_oR_RightImage_J0 p_x).2 (.br 10 (.en [2] [none] [] []) (.br 15 (.en [2] [none] [] []) (.br 20 (.en [2] [none] [] []) (.br 24 (.en [2] [none] [] []) (.en [1] [none] [] []))))) (fin_oR_RightImage_J0 p_x r)=(((decide (p_x.Shard < 0))=true→lfe (fin_oR_RightImage_J0 p_x) (.inl ()) r)∧((decide (p_x.Shard < 0))=false→(((decide (p_x.Shard ≥ 6))=true→lfe (fin_oR_RightImage_J0 p_x) (.inl ()) r)∧((decide (p_x.Shard ≥ 6))=false→(((decide (p_x.Epoch < 1))=true→lfe (fin_oR_RightImage_J0 p_x) (.inl ()) r)∧((decide (p_x.Epoch < 1))=false→(((decide (p_x.Epoch > 1099511627776))=true→lfe (fin_oR_RightImage_J0 p_x) (.inl ()) r)∧((decide (p_x.Epoch > 1099511627776))=false→lfe (fin_oR_RightImage_J0 p_x) (.inr ()) r)))))))):=fun C=>by kernel_rfl
  refine runS_of (fun _ _ h=>by cases h) WJ75_ba_ok (Nat.le_of_ble_eq_true rfl) ((e _).mpr ?_)
  unfold oR_RightImage_J0 at h
  refine ⟨fun hb=>?_,fun hb=>?_⟩
  · have h:=cond_t hb h
    exact lfe_of h
  · have h:=cond_f hb h
    refine ⟨fun hb=>?_,fun hb=>?_⟩
    · have h:=cond_t hb h
      exact lfe_of h
    · have h:=cond_f hb h
      refine ⟨fun hb=>?_,fun hb=>?_⟩
      · have h:=cond_t hb h
        exact lfe_of h
      · have h:=cond_f hb h
        refine ⟨fun hb=>?_,fun hb=>?_⟩
        · have h:=cond_t hb h
          exact lfe_of h
        · have h:=cond_f hb h
          exact lfe_of h
def st_oR_RightImage_L1 (p_x:api_Image) (s6:Int):List AV × WH:=([(.ptr (some (0,0))),(.int .i64 s6)],[(some (.cells (e_api_Image p_x) false false))])
def fin_oR_RightImage_L1 (p_x:api_Image):Unit ⊕ Unit→Ex × Fast × WH:=fun
  | .inl e=>(.ret,[(2,(.bool false))],[])
  | .inr e=>((.exit 0),[(1,(.ptr (some (0,0))))],[(some (.cells (e_api_Image p_x) false false))])
abbrev rx_oR_RightImage_L1 (p_x:api_Image):=roundX [1,3] (st_oR_RightImage_L1 p_x) (fin_oR_RightImage_L1 p_x)
def oR_RightImage_L1_s (p_x:api_Image) (s6:Int):Option ((Int) ⊕ (Unit ⊕ Unit)) :=
  cond (decide (s6 < (p_x.Pairs.length:Int))) ((getI p_x.Pairs s6).bind fun (x7:api_Pair)=>cond (decide ((x7.Key.length:Int) < 1)) (some (.inr (.inl ()))) ((getI p_x.Pairs s6).bind fun (x8:api_Pair)=>cond (decide ((x8.Key.length:Int) > 8)) (some (.inr (.inl ()))) ((getI p_x.Pairs s6).bind fun (x9:api_Pair)=>cond (decide ((x9.Value.length:Int) > 16)) (some (.inr (.inl ()))) (some (.inl (IntKind.i64.wrap (s6+1))))))) (some (.inr (.inr ())))
def oR_RightImage_L1 (p_x:api_Image) (s6:Int):Option (Unit ⊕ Unit):=loopX (oR_RightImage_L1_s p_x) KK s6
theorem b_oR_RightImage_L1 (d:Nat) {p_x:api_Image} {s6:Int} {r:(Int) ⊕ (Unit ⊕ Unit)} (h:oR_RightImage_L1_s p_x s6=some r):RunX (bexec (wcalls atab (d+0)) KK 113 WB75_0) 0 (inL [1,3] (st_oR_RightImage_L1 p_x s6)) (rx_oR_RightImage_L1 p_x r):=by
  obtain ⟨x7,hx7⟩:=wx (getI p_x.Pairs s6)
  obtain ⟨x8,hx8⟩:=wx (getI p_x.Pairs s6)
  obtain ⟨x9,hx9⟩:=wx (getI p_x.Pairs s6)
  have e:∀ C:ACalls,wCode C (fun _=>none) KK 113 0 WB75_0 (inL [1,3] (st_oR_RightImage_L1 p_x s6)).1 (inL [1,3] (st_oR_RightImage_L1 p_x s6)).2 (.br 29 (.v 35 (.elem ((e_api_Pair x7) ++ F_api_Pair (p_x.Pairs.drop (s6.toNat+1)))) (.br 40 (.en [2] [none] [] []) (.v 44 (.elem ((e_api_Pair x8) ++ F_api_Pair (p_x.Pairs.drop (s6.toNat+1)))) (.br 50 (.en [2] [none] [] []) (.v 54 (.elem ((e_api_Pair x9) ++ F_api_Pair (p_x.Pairs.drop (s6.toNat+1)))) (.br 59 (.en [2] [none] [] []) (.en [1,3] [none,none] [] []))))))) (.en [1] [none] [] [])) (rx_oR_RightImage_L1 p_x r)=(((decide (s6 < (p_x.Pairs.length:Int)))=true→(wP (.idxSlice 2 (.c (l_api_Pair p_x.Pairs)) (.c (.int .i64 s6)))=some (.elem ((e_api_Pair x7) ++ F_api_Pair (p_x.Pairs.drop (s6.toNat+1))))∧(((decide ((x7.Key.length:Int) < 1))=true→lfe (rx_oR_RightImage_L1 p_x) (.inr (.inl ())) r)∧((decide ((x7.Key.length:Int) < 1))=false→(wP (.idxSlice 2 (.c (l_api_Pair p_x.Pairs)) (.c (.int .i64 s6)))=some (.elem ((e_api_Pair x8) ++ F_api_Pair (p_x.Pairs.drop (s6.toNat+1))))∧(((decide ((x8.Key.length:Int) > 8))=true→lfe (rx_oR_RightImage_L1 p_x) (.inr (.inl ())) r)∧((decide ((x8.Key.length:Int) > 8))=false→(wP (.idxSlice 2 (.c (l_api_Pair p_x.Pairs)) (.c (.int .i64 s6)))=some (.elem ((e_api_Pair x9) ++ F_api_Pair (p_x.Pairs.drop (s6.toNat+1))))∧(((decide ((x9.Value.length:Int) > 16))=true→lfe (rx_oR_RightImage_L1 p_x) (.inr (.inl ())) r)∧((decide ((x9.Value.length:Int) > 16))=false→lfe (rx_oR_RightImage_L1 p_x) (.inl (IntKind.i64.wrap (s6+1))) r))))))))))∧((decide (s6 < (p_x.Pairs.length:Int)))=false→lfe (rx_oR_RightImage_L1 p_x) (.inr (.inr ())) r)):=fun C=>by kernel_rfl
  refine runS_of (fun _ _ h=>by cases h) WB75_0_ok (Nat.le_of_ble_eq_true rfl) ((e _).mpr ?_)
  unfold oR_RightImage_L1_s at h
  refine ⟨fun hb=>?_,fun hb=>?_⟩
  · have h:=cond_t hb h
    obtain ⟨q7,h⟩:=bget hx7 h
    refine ⟨wP_idx R_api_Pair q7, ?_⟩
    refine ⟨fun hb=>?_,fun hb=>?_⟩
    · have h:=cond_t hb h
      exact lfe_of h
    · have h:=cond_f hb h
      obtain ⟨q8,h⟩:=bget hx8 h
      refine ⟨wP_idx R_api_Pair q8, ?_⟩
      refine ⟨fun hb=>?_,fun hb=>?_⟩
      · have h:=cond_t hb h
        exact lfe_of h
      · have h:=cond_f hb h
        obtain ⟨q9,h⟩:=bget hx9 h
        refine ⟨wP_idx R_api_Pair q9, ?_⟩
        refine ⟨fun hb=>?_,fun hb=>?_⟩
        · have h:=cond_t hb h
          exact lfe_of h
        · have h:=cond_f hb h
          exact lfe_of h
  · have h:=cond_f hb h
    exact lfe_of h
theorem s_oR_RightImage_L1 (d:Nat) {p_x:api_Image} {s6:Int} {r:Unit ⊕ Unit} (h:oR_RightImage_L1 p_x s6=some r):RunX (bloop (bexec (wcalls atab (d+0)) KK 113 WB75_0) [1,3] KK) 0 (inL [1,3] (st_oR_RightImage_L1 p_x s6)) (fin_oR_RightImage_L1 p_x r) :=
  loop_of (st:=st_oR_RightImage_L1 p_x) (fin:=fin_oR_RightImage_L1 p_x) (step:=oR_RightImage_L1_s p_x) (fun e=>by rcases e with e | e <;> (intro h; cases h)) (fun s x h=>b_oR_RightImage_L1 d h) KK s6 r h
abbrev in_oR_RightImage_J2 (x15:api_Sess) (s14:Int) (p_x:api_Image):Fast × WH:=([(1,(.ptr (some (0,0)))),(4,(.int .i64 s14)),(5,(.ptr (some (1,0))))],[(some (.cells (e_api_Image p_x) false false)),(some (.cells (e_api_Sess x15) false false))])
def fin_oR_RightImage_J2 (x15:api_Sess) (s14:Int) (p_x:api_Image):Bool→Ex × Fast × WH:=fun e=>(.normal,[(1,(.ptr (some (0,0)))),(4,(.int .i64 s14)),(5,(.ptr (some (1,0)))),(6,(.bool e))],[(some (.cells (e_api_Image p_x) false false)),(some (.cells (e_api_Sess x15) false false))])
def oR_RightImage_J2 (x15:api_Sess) (s14:Int) (p_x:api_Image):Option (Bool) :=
  cond (x15.Answer.Why == 0) (some true) (cond (x15.Answer.Why == 4) (some true) (cond (x15.Answer.Why == 5) (some true) (some (x15.Answer.Why == 6))))
theorem s_oR_RightImage_J2 (d:Nat) {x15:api_Sess} {s14:Int} {p_x:api_Image} {r:Bool} (h:oR_RightImage_J2 x15 s14 p_x=some r):RunX (bexec (wcalls atab (d+0)) KK 113 WJ75_bbbabklbakba) 0 (in_oR_RightImage_J2 x15 s14 p_x) (fin_oR_RightImage_J2 x15 s14 p_x r):=by
  have e:∀ C:ACalls,wCode C (fun _=>none) KK 113 0 WJ75_bbbabklbakba (in_oR_RightImage_J2 x15 s14 p_x).1 (in_oR_RightImage_J2 x15 s14 p_x).2 (.br 76 (.en [1,4,5,6] [none,none,none,none] [] []) (.br 82 (.en [1,4,5,6] [none,none,none,none] [] []) (.br 88 (.en [1,4,5,6] [none,none,none,none] [] []) (.en [1,4,5,6] [none,none,none,none] [] [])))) (fin_oR_RightImage_J2 x15 s14 p_x r)=(((x15.Answer.Why == 0)=true→lfe (fin_oR_RightImage_J2 x15 s14 p_x) true r)∧((x15.Answer.Why == 0)=false→(((x15.Answer.Why == 4)=true→lfe (fin_oR_RightImage_J2 x15 s14 p_x) true r)∧((x15.Answer.Why == 4)=false→(((x15.Answer.Why == 5)=true→lfe (fin_oR_RightImage_J2 x15 s14 p_x) true r)∧((x15.Answer.Why == 5)=false→lfe (fin_oR_RightImage_J2 x15 s14 p_x) (x15.Answer.Why == 6) r)))))):=fun C=>by kernel_rfl
  refine runS_of (fun _ _ h=>by cases h) WJ75_bbbabklbakba_ok (Nat.le_of_ble_eq_true rfl) ((e _).mpr ?_)
  unfold oR_RightImage_J2 at h
  refine ⟨fun hb=>?_,fun hb=>?_⟩
  · have h:=cond_t hb h
    exact lfe_of h
  · have h:=cond_f hb h
    refine ⟨fun hb=>?_,fun hb=>?_⟩
    · have h:=cond_t hb h
      exact lfe_of h
    · have h:=cond_f hb h
      refine ⟨fun hb=>?_,fun hb=>?_⟩
      · have h:=cond_t hb h
        exact lfe_of h
      · have h:=cond_f hb h
        exact lfe_of h
def st_oR_RightImage_L3 (p_x:api_Image) (s14:Int):List AV × WH:=([(.ptr (some (0,0))),(.int .i64 s14)],[(some (.cells (e_api_Image p_x) false false))])
def fin_oR_RightImage_L3 (p_x:api_Image):Unit ⊕ Unit→Ex × Fast × WH:=fun
  | .inl e=>(.ret,[(2,(.bool false))],[])
  | .inr e=>((.exit 2),[(1,(.ptr (some (0,0))))],[(some (.cells (e_api_Image p_x) false false))])
abbrev rx_oR_RightImage_L3 (p_x:api_Image):=roundX [1,4] (st_oR_RightImage_L3 p_x) (fin_oR_RightImage_L3 p_x)
def oR_RightImage_L3_s (p_x:api_Image) (s14:Int):Option ((Int) ⊕ (Unit ⊕ Unit)) :=
  cond (decide (s14 < (p_x.Sess.length:Int))) ((getI p_x.Sess s14).bind fun (x15:api_Sess)=>(oR_RightImage_J2 x15 s14 p_x).bind fun (x16:Bool)=>cond (!x16) (some (.inr (.inl ()))) (cond (decide (x15.Seq > 4611686018427387903)) (some (.inr (.inl ()))) (cond (decide ((x15.Answer.Value.length:Int) > 16)) (some (.inr (.inl ()))) (some (.inl (IntKind.i64.wrap (s14+1))))))) (some (.inr (.inr ())))
def oR_RightImage_L3 (p_x:api_Image) (s14:Int):Option (Unit ⊕ Unit):=loopX (oR_RightImage_L3_s p_x) KK s14
theorem b_oR_RightImage_L3 (d:Nat) {p_x:api_Image} {s14:Int} {r:(Int) ⊕ (Unit ⊕ Unit)} (h:oR_RightImage_L3_s p_x s14=some r):RunX (bexec (wcalls atab (d+0)) KK 113 WB75_1) 0 (inL [1,4] (st_oR_RightImage_L3 p_x s14)) (rx_oR_RightImage_L3 p_x r):=by
  obtain ⟨x15,hx15⟩:=wx (getI p_x.Sess s14)
  obtain ⟨x16,hx16⟩:=wx (oR_RightImage_J2 x15 s14 p_x)
  have e:∀ C:ACalls,wCode C (fun _=>none) KK 113 0 WB75_1 (inL [1,4] (st_oR_RightImage_L3 p_x s14)).1 (inL [1,4] (st_oR_RightImage_L3 p_x s14)).2 (.br 64 (.v 70 (.elem ((e_api_Sess x15) ++ F_api_Sess (p_x.Sess.drop (s14.toNat+1)))) (.st none (.jn [1,4,5] [none,none,none] [] [] .normal [(1,(.ptr (some (0,0)))),(4,(.int .i64 s14)),(5,(.ptr (some (1,0)))),(6,(.bool x16))] [(some (.cells (e_api_Image p_x) false false)),(some (.cells (e_api_Sess x15) false false))] (.br 96 (.en [2] [none] [] []) (.br 101 (.en [2] [none] [] []) (.br 107 (.en [2] [none] [] []) (.en [1,4] [none,none] [] []))))))) (.en [1] [none] [] [])) (rx_oR_RightImage_L3 p_x r)=(((decide (s14 < (p_x.Sess.length:Int)))=true→(wP (.idxSlice 4 (.c (l_api_Sess p_x.Sess)) (.c (.int .i64 s14)))=some (.elem ((e_api_Sess x15) ++ F_api_Sess (p_x.Sess.drop (s14.toNat+1))))∧(RunS (bexec C KK 113 WJ75_bbbabklbakba) 0 [(1,(.ptr (some (0,0)))),(4,(.int .i64 s14)),(5,(.ptr (some (1,0))))] [(some (.cells (e_api_Image p_x) false false)),(some (.cells (e_api_Sess x15) false false))] .normal [(1,(.ptr (some (0,0)))),(4,(.int .i64 s14)),(5,(.ptr (some (1,0)))),(6,(.bool x16))] [(some (.cells (e_api_Image p_x) false false)),(some (.cells (e_api_Sess x15) false false))]∧(((!x16)=true→lfe (rx_oR_RightImage_L3 p_x) (.inr (.inl ())) r)∧((!x16)=false→(((decide (x15.Seq > 4611686018427387903))=true→lfe (rx_oR_RightImage_L3 p_x) (.inr (.inl ())) r)∧((decide (x15.Seq > 4611686018427387903))=false→(((decide ((x15.Answer.Value.length:Int) > 16))=true→lfe (rx_oR_RightImage_L3 p_x) (.inr (.inl ())) r)∧((decide ((x15.Answer.Value.length:Int) > 16))=false→lfe (rx_oR_RightImage_L3 p_x) (.inl (IntKind.i64.wrap (s14+1))) r)))))))))∧((decide (s14 < (p_x.Sess.length:Int)))=false→lfe (rx_oR_RightImage_L3 p_x) (.inr (.inr ())) r)):=fun C=>by kernel_rfl
  refine runS_of (fun _ _ h=>by cases h) WB75_1_ok (Nat.le_of_ble_eq_true rfl) ((e _).mpr ?_)
  unfold oR_RightImage_L3_s at h
  refine ⟨fun hb=>?_,fun hb=>?_⟩
  · have h:=cond_t hb h
    obtain ⟨q15,h⟩:=bget hx15 h
    refine ⟨wP_idx R_api_Sess q15, ?_⟩
    obtain ⟨q16,h⟩:=bget hx16 h
    refine ⟨s_oR_RightImage_J2 (d+0) q16, ?_⟩
    refine ⟨fun hb=>?_,fun hb=>?_⟩
    · have h:=cond_t hb h
      exact lfe_of h
    · have h:=cond_f hb h
      refine ⟨fun hb=>?_,fun hb=>?_⟩
      · have h:=cond_t hb h
        exact lfe_of h
      · have h:=cond_f hb h
        refine ⟨fun hb=>?_,fun hb=>?_⟩
        · have h:=cond_t hb h
          exact lfe_of h
        · have h:=cond_f hb h
          exact lfe_of h
  · have h:=cond_f hb h
    exact lfe_of h
theorem s_oR_RightImage_L3 (d:Nat) {p_x:api_Image} {s14:Int} {r:Unit ⊕ Unit} (h:oR_RightImage_L3 p_x s14=some r):RunX (bloop (bexec (wcalls atab (d+0)) KK 113 WB75_1) [1,4] KK) 0 (inL [1,4] (st_oR_RightImage_L3 p_x s14)) (fin_oR_RightImage_L3 p_x r) :=
  loop_of (st:=st_oR_RightImage_L3 p_x) (fin:=fin_oR_RightImage_L3 p_x) (step:=oR_RightImage_L3_s p_x) (fun e=>by rcases e with e | e <;> (intro h; cases h)) (fun s x h=>b_oR_RightImage_L3 d h) KK s14 r h
def oR_RightImage (p_x:api_Image):Option (Bool) :=
  (oR_RightImage_J0 p_x).bind fun (x1:Unit ⊕ Unit)=>cond (isL x1) (some false) ((oR_RightImage_L1 p_x 0).bind fun (x10:Unit ⊕ Unit)=>cond (isL x10) (some false) ((oR_RightImage_L3 p_x 0).bind fun (x17:Unit ⊕ Unit)=>cond (isL x17) (some false) ((oR_ShardFrom p_x).bind fun (x19:oR_Shard)=>(oR_Shard_Image x19).bind fun (x20:api_Image)=>(oR_SameImage p_x x20).bind fun (x21:Bool)=>some x21)))
def out_oR_RightImage (p_x:api_Image) (r:Bool):AV × WH:=((.bool r),[])
theorem s_oR_RightImage (d:Nat) {p_x:api_Image} {r:Bool} (h:oR_RightImage p_x=some r):Spec (wcalls atab (d+5)) 75 [(.agg (e_api_Image p_x))] [] (out_oR_RightImage p_x r).1 (out_oR_RightImage p_x r).2:=by
  obtain ⟨x1,hx1⟩:=wx (oR_RightImage_J0 p_x)
  obtain ⟨x10,hx10⟩:=wx (oR_RightImage_L1 p_x 0)
  obtain ⟨x17,hx17⟩:=wx (oR_RightImage_L3 p_x 0)
  obtain ⟨x19,hx19⟩:=wx (oR_ShardFrom p_x)
  obtain ⟨x20,hx20⟩:=wx (oR_Shard_Image x19)
  obtain ⟨x21,hx21⟩:=wx (oR_SameImage p_x x20)
  have e:∀ C:ACalls,wBody C (fun _=>none) KK WF75 [(.agg (e_api_Image p_x))] [] (.sk (.ite (isL x1) (.jn [1] [none] [] [] .ret [(2,(.bool false))] [] (.fin (some false) [] none)) (.jn [1] [none] [] [] .normal [(1,(.ptr (some (0,0))))] [(some (.cells (e_api_Image p_x) false false))] (.ite (isL x10) (.lp [none,none] [] [] .ret [(2,(.bool false))] [] (.fin (some false) [] none)) (.lp [none,none] [] [] (.exit 0) [(1,(.ptr (some (0,0))))] [(some (.cells (e_api_Image p_x) false false))] (.ite (isL x17) (.lp [none,none] [] [] .ret [(2,(.bool false))] [] (.fin (some false) [] none)) (.lp [none,none] [] [] (.exit 2) [(1,(.ptr (some (0,0))))] [(some (.cells (e_api_Image p_x) false false))] (.call [] (some false) [.agg [.undef,.undef,.slice none 2 0 0 true,.slice none 4 0 0 true]] (.ptr (some (0,0))) [(some (.cells (e_oR_Shard x19) false false))] (.call [] (some false) [] (.agg (e_api_Image x20)) [(some (.cells (e_oR_Shard x19) false false))] (.cb [] [.agg [.undef,.undef,.slice none 2 0 0 true,.slice none 4 0 0 true],.agg [.undef,.undef,.slice none 2 0 0 true,.slice none 4 0 0 true]] (.bool x21) (.fin (some false) [] none))))))))))) (out_oR_RightImage p_x r).1 (out_oR_RightImage p_x r).2=(1=1∧1≤113∧(((isL x1)=true→(RunS (bexec C KK 113 WJ75_ba) 0 [(1,(.ptr (some (0,0))))] [(some (.cells (e_api_Image p_x) false false))] .ret [(2,(.bool false))] []∧lff (out_oR_RightImage p_x) false r))∧((isL x1)=false→(RunS (bexec C KK 113 WJ75_ba) 0 [(1,(.ptr (some (0,0))))] [(some (.cells (e_api_Image p_x) false false))] .normal [(1,(.ptr (some (0,0))))] [(some (.cells (e_api_Image p_x) false false))]∧(((isL x10)=true→(RunS (bloop (bexec C KK 113 WB75_0) [1,3] KK) 0 [(1,(.ptr (some (0,0)))),(3,(.int .i64 0))] [(some (.cells (e_api_Image p_x) false false))] .ret [(2,(.bool false))] []∧lff (out_oR_RightImage p_x) false r))∧((isL x10)=false→(RunS (bloop (bexec C KK 113 WB75_0) [1,3] KK) 0 [(1,(.ptr (some (0,0)))),(3,(.int .i64 0))] [(some (.cells (e_api_Image p_x) false false))] (.exit 0) [(1,(.ptr (some (0,0))))] [(some (.cells (e_api_Image p_x) false false))]∧(((isL x17)=true→(RunS (bloop (bexec C KK 113 WB75_1) [1,4] KK) 0 [(1,(.ptr (some (0,0)))),(4,(.int .i64 0))] [(some (.cells (e_api_Image p_x) false false))] .ret [(2,(.bool false))] []∧lff (out_oR_RightImage p_x) false r))∧((isL x17)=false→(RunS (bloop (bexec C KK 113 WB75_1) [1,4] KK) 0 [(1,(.ptr (some (0,0)))),(4,(.int .i64 0))] [(some (.cells (e_api_Image p_x) false false))] (.exit 2) [(1,(.ptr (some (0,0))))] [(some (.cells (e_api_Image p_x) false false))]∧(Spec C 76 [(.agg (e_api_Image p_x))] [] (.ptr (some (0,0))) [(some (.cells (e_oR_Shard x19) false false))]∧(0≤1∧(Spec C 79 [(.ptr (some (0,0)))] [(some (.cells (e_oR_Shard x19) false false))] (.agg (e_api_Image x20)) [(some (.cells (e_oR_Shard x19) false false))]∧(1≤1∧(Spec C 68 [(.agg (e_api_Image p_x)),(.agg (e_api_Image x20))] [] (.bool x21) []∧lff (out_oR_RightImage p_x) x21 r))))))))))))))):=fun C=>by kernel_rfl
  refine spec_of (fun _ _ h=>by cases h) rfl atab_75 WF75_ok ((e _).mpr ⟨rfl,by decide, ?_⟩)
  unfold oR_RightImage at h
  obtain ⟨q1,h⟩:=bget hx1 h
  refine ⟨fun hb2=>?_,fun hb2=>?_⟩
  · have h:=cond_t hb2 h
    refine ⟨by have h:=s_oR_RightImage_J0 (d+4) q1; rw [isL_t hb2] at h; exact h, ?_⟩
    exact lff_of h
  · have h:=cond_f hb2 h
    refine ⟨by have h:=s_oR_RightImage_J0 (d+4) q1; rw [isL_f hb2] at h; exact h, ?_⟩
    obtain ⟨q10,h⟩:=bget hx10 h
    refine ⟨fun hb11=>?_,fun hb11=>?_⟩
    · have h:=cond_t hb11 h
      refine ⟨by have h:=s_oR_RightImage_L1 (d+4) q10; rw [isL_t hb11] at h; exact h, ?_⟩
      exact lff_of h
    · have h:=cond_f hb11 h
      refine ⟨by have h:=s_oR_RightImage_L1 (d+4) q10; rw [isL_f hb11] at h; exact h, ?_⟩
      obtain ⟨q17,h⟩:=bget hx17 h
      refine ⟨fun hb18=>?_,fun hb18=>?_⟩
      · have h:=cond_t hb18 h
        refine ⟨by have h:=s_oR_RightImage_L3 (d+4) q17; rw [isL_t hb18] at h; exact h, ?_⟩
        exact lff_of h
      · have h:=cond_f hb18 h
        refine ⟨by have h:=s_oR_RightImage_L3 (d+4) q17; rw [isL_f hb18] at h; exact h, ?_⟩
        obtain ⟨q19,h⟩:=bget hx19 h
        refine ⟨s_oR_ShardFrom (d+0) q19, ?_⟩
        refine ⟨by decide, ?_⟩
        obtain ⟨q20,h⟩:=bget hx20 h
        refine ⟨s_oR_Shard_Image (d+3) q20, ?_⟩
        refine ⟨by decide, ?_⟩
        obtain ⟨q21,h⟩:=bget hx21 h
        refine ⟨s_oR_SameImage (d+3) q21, ?_⟩
        exact lff_of h
def oR_Shard_Weight (p_s:oR_Shard):Option (Int) :=
  some (IntKind.i64.wrap (1+(p_s.T.L.length:Int)))
def out_oR_Shard_Weight (p_s:oR_Shard) (r:Int):AV × WH:=((.int .i64 r),[(some (.cells (e_oR_Shard p_s) false false))])
theorem s_oR_Shard_Weight (d:Nat) {p_s:oR_Shard} {r:Int} (h:oR_Shard_Weight p_s=some r):Spec (wcalls atab (d+1)) 78 [(.ptr (some (0,0)))] [(some (.cells (e_oR_Shard p_s) false false))] (out_oR_Shard_Weight p_s r).1 (out_oR_Shard_Weight p_s r).2:=by
  have e:∀ C:ACalls,wBody C (fun _=>none) KK WF78 [(.ptr (some (0,0)))] [(some (.cells (e_oR_Shard p_s) false false))] (.fin (some false) [] none) (out_oR_Shard_Weight p_s r).1 (out_oR_Shard_Weight p_s r).2=(1=1∧1≤10∧lff (out_oR_Shard_Weight p_s) (IntKind.i64.wrap (1+(p_s.T.L.length:Int))) r):=fun C=>by kernel_rfl
  refine spec_of (fun _ _ h=>by cases h) rfl atab_78 WF78_ok ((e _).mpr ⟨rfl,by decide, ?_⟩)
  unfold oR_Shard_Weight at h
  exact lff_of h
def st_osmosislaw8_ShardTells_L0 (asks:List oH_RawOp) (s16:Int × shard_Shard × oR_Shard):List AV × WH:=([(.ptr (some (0,0))),(.ptr (some (1,0))),(l_oH_RawOp asks),(.int .i64 (asks.length:Int)),(.int .i64 s16.1)],[(some (.cells (e_shard_Shard s16.2.1) false false)),(some (.cells (e_oR_Shard s16.2.2) false false))])
def fin_osmosislaw8_ShardTells_L0 (asks:List oH_RawOp):Unit ⊕ (shard_Shard × oR_Shard)→Ex × Fast × WH:=fun
  | .inl e=>(.ret,[(10,(.bool false))],[])
  | .inr e=>((.exit 0),[(13,(.ptr (some (0,0)))),(14,(.ptr (some (1,0))))],[(some (.cells (e_shard_Shard e.1) false false)),(some (.cells (e_oR_Shard e.2) false false))])
abbrev rx_osmosislaw8_ShardTells_L0 (asks:List oH_RawOp):=roundX [13,14,40,41,42] (st_osmosislaw8_ShardTells_L0 asks) (fin_osmosislaw8_ShardTells_L0 asks)
def osmosislaw8_ShardTells_L0_s (asks:List oH_RawOp) (s16:Int × shard_Shard × oR_Shard):Option ((Int × shard_Shard × oR_Shard) ⊕ (Unit ⊕ (shard_Shard × oR_Shard))) :=
  cond (decide (s16.1 < (asks.length:Int))) ((getI asks s16.1).bind fun (x17:oH_RawOp)=>(oH_Req x17).bind fun (x18:api_Req)=>(shard_Shard_Ask x18 s16.2.1).bind fun (x19:api_Answer × Bool × shard_Shard)=>(oR_Shard_Ask x18 s16.2.2).bind fun (x20:api_Answer × Bool × oR_Shard)=>cond (!(x19.1.Why == x20.1.Why && (x19.1.Value == x20.1.Value && true))) (some (.inr (.inl ()))) (cond (!(x19.2.1 == x20.2.1)) (some (.inr (.inl ()))) ((shard_Shard_Weight x19.2.2).bind fun (x21:Int)=>(oR_Shard_Weight x20.2.2).bind fun (x22:Int)=>cond (x21 != x22) (some (.inr (.inl ()))) ((shard_Shard_Image x19.2.2).bind fun (x23:api_Image)=>(oR_Shard_Image x20.2.2).bind fun (x24:api_Image)=>(oR_SameImage x23 x24).bind fun (x25:Bool)=>cond (!x25) (some (.inr (.inl ()))) (some (.inl ((IntKind.i64.wrap (s16.1+1)),x19.2.2,x20.2.2))))))) (some (.inr (.inr (s16.2.1,s16.2.2))))
def osmosislaw8_ShardTells_L0 (asks:List oH_RawOp) (s16:Int × shard_Shard × oR_Shard):Option (Unit ⊕ (shard_Shard × oR_Shard)):=loopX (osmosislaw8_ShardTells_L0_s asks) KK s16
theorem b_osmosislaw8_ShardTells_L0 (d:Nat) {asks:List oH_RawOp} {s16:Int × shard_Shard × oR_Shard} {r:(Int × shard_Shard × oR_Shard) ⊕ (Unit ⊕ (shard_Shard × oR_Shard))} (h:osmosislaw8_ShardTells_L0_s asks s16=some r):RunX (bexec (wcalls atab (d+7)) KK 88 WB21_0) 0 (inL [13,14,40,41,42] (st_osmosislaw8_ShardTells_L0 asks s16)) (rx_osmosislaw8_ShardTells_L0 asks r):=by
  obtain ⟨x17,hx17⟩:=wx (getI asks s16.1)
  obtain ⟨x18,hx18⟩:=wx (oH_Req x17)
  obtain ⟨x19,hx19⟩:=wx (shard_Shard_Ask x18 s16.2.1)
  obtain ⟨x20,hx20⟩:=wx (oR_Shard_Ask x18 s16.2.2)
  obtain ⟨x21,hx21⟩:=wx (shard_Shard_Weight x19.2.2)
  obtain ⟨x22,hx22⟩:=wx (oR_Shard_Weight x20.2.2)
  obtain ⟨x23,hx23⟩:=wx (shard_Shard_Image x19.2.2)
  obtain ⟨x24,hx24⟩:=wx (oR_Shard_Image x20.2.2)
  obtain ⟨x25,hx25⟩:=wx (oR_SameImage x23 x24)
  have e:∀ C:ACalls,wCode C (fun _=>none) KK 88 0 WB21_0 (inL [13,14,40,41,42] (st_osmosislaw8_ShardTells_L0 asks s16)).1 (inL [13,14,40,41,42] (st_osmosislaw8_ShardTells_L0 asks s16)).2 (.br 43 (.v 44 (.elem ((e_oH_RawOp x17) ++ F_oH_RawOp (asks.drop (s16.1.toNat+1)))) (.st none (.cb [] [] (.agg (e_api_Req x18)) (.st none (.call [] (some false) [] (.tuple [(.agg (e_api_Answer x19.1)),(.bool x19.2.1)]) [(some (.cells (e_shard_Shard x19.2.2) false false))] (.st none (.call [] (some false) [] (.tuple [(.agg (e_api_Answer x20.1)),(.bool x20.2.1)]) [(some (.cells (e_oR_Shard x20.2.2) false false))] (.st none (.br 62 (.en [10] [none] [] []) (.br 67 (.en [10] [none] [] []) (.call [] (some false) [] (.int .i64 x21) [(some (.cells (e_shard_Shard x19.2.2) false false))] (.call [] (some false) [] (.int .i64 x22) [(some (.cells (e_oR_Shard x20.2.2) false false))] (.br 73 (.en [10] [none] [] []) (.call [] (some false) [] (.agg (e_api_Image x23)) [(some (.cells (e_shard_Shard x19.2.2) false false))] (.call [] (some false) [] (.agg (e_api_Image x24)) [(some (.cells (e_oR_Shard x20.2.2) false false))] (.cb [] [.agg [.undef,.undef,.slice none 2 0 0 true,.slice none 4 0 0 true],.agg [.undef,.undef,.slice none 2 0 0 true,.slice none 4 0 0 true]] (.bool x25) (.br 79 (.en [10] [none] [] []) (.en [13,14,40,41,42] [none,none,none,none,none] [] [.undef,.undef,.slice none 8 0 0 true,.undef,.undef])))))))))))))))))) (.en [13,14] [none,none] [] [])) (rx_osmosislaw8_ShardTells_L0 asks r)=(((decide (s16.1 < (asks.length:Int)))=true→(wP (.idxSlice 8 (.c (l_oH_RawOp asks)) (.c (.int .i64 s16.1)))=some (.elem ((e_oH_RawOp x17) ++ F_oH_RawOp (asks.drop (s16.1.toNat+1))))∧(Spec C 61 [(.agg (e_oH_RawOp x17))] [] (.agg (e_api_Req x18)) []∧(Spec C 66 [(.ptr (some (0,0))),(.agg (e_api_Req x18))] [(some (.cells (e_shard_Shard s16.2.1) false false))] (.tuple [(.agg (e_api_Answer x19.1)),(.bool x19.2.1)]) [(some (.cells (e_shard_Shard x19.2.2) false false))]∧(1≤1∧(Spec C 77 [(.ptr (some (0,0))),(.agg (e_api_Req x18))] [(some (.cells (e_oR_Shard s16.2.2) false false))] (.tuple [(.agg (e_api_Answer x20.1)),(.bool x20.2.1)]) [(some (.cells (e_oR_Shard x20.2.2) false false))]∧(1≤1∧(((!(x19.1.Why == x20.1.Why && (x19.1.Value == x20.1.Value && true)))=true→lfe (rx_osmosislaw8_ShardTells_L0 asks) (.inr (.inl ())) r)∧((!(x19.1.Why == x20.1.Why && (x19.1.Value == x20.1.Value && true)))=false→(((!(x19.2.1 == x20.2.1))=true→lfe (rx_osmosislaw8_ShardTells_L0 asks) (.inr (.inl ())) r)∧((!(x19.2.1 == x20.2.1))=false→(Spec C 71 [(.ptr (some (0,0)))] [(some (.cells (e_shard_Shard x19.2.2) false false))] (.int .i64 x21) [(some (.cells (e_shard_Shard x19.2.2) false false))]∧(1≤1∧(Spec C 78 [(.ptr (some (0,0)))] [(some (.cells (e_oR_Shard x20.2.2) false false))] (.int .i64 x22) [(some (.cells (e_oR_Shard x20.2.2) false false))]∧(1≤1∧(((x21 != x22)=true→lfe (rx_osmosislaw8_ShardTells_L0 asks) (.inr (.inl ())) r)∧((x21 != x22)=false→(Spec C 67 [(.ptr (some (0,0)))] [(some (.cells (e_shard_Shard x19.2.2) false false))] (.agg (e_api_Image x23)) [(some (.cells (e_shard_Shard x19.2.2) false false))]∧(1≤1∧(Spec C 79 [(.ptr (some (0,0)))] [(some (.cells (e_oR_Shard x20.2.2) false false))] (.agg (e_api_Image x24)) [(some (.cells (e_oR_Shard x20.2.2) false false))]∧(1≤1∧(Spec C 68 [(.agg (e_api_Image x23)),(.agg (e_api_Image x24))] [] (.bool x25) []∧(((!x25)=true→lfe (rx_osmosislaw8_ShardTells_L0 asks) (.inr (.inl ())) r)∧((!x25)=false→lfe (rx_osmosislaw8_ShardTells_L0 asks) (.inl ((IntKind.i64.wrap (s16.1+1)),x19.2.2,x20.2.2)) r))))))))))))))))))))))))∧((decide (s16.1 < (asks.length:Int)))=false→lfe (rx_osmosislaw8_ShardTells_L0 asks) (.inr (.inr (s16.2.1,s16.2.2))) r)):=fun C=>by kernel_rfl
  refine runS_of (fun _ _ h=>by cases h) WB21_0_ok (Nat.le_of_ble_eq_true rfl) ((e _).mpr ?_)
  unfold osmosislaw8_ShardTells_L0_s at h
  refine ⟨fun hb=>?_,fun hb=>?_⟩
  · have h:=cond_t hb h
    obtain ⟨q17,h⟩:=bget hx17 h
    refine ⟨wP_idx R_oH_RawOp q17, ?_⟩
    obtain ⟨q18,h⟩:=bget hx18 h
    refine ⟨s_oH_Req (d+3) q18, ?_⟩
    obtain ⟨q19,h⟩:=bget hx19 h
    refine ⟨s_shard_Shard_Ask (d+0) q19, ?_⟩
    refine ⟨by decide, ?_⟩
    obtain ⟨q20,h⟩:=bget hx20 h
    refine ⟨s_oR_Shard_Ask (d+4) q20, ?_⟩
    refine ⟨by decide, ?_⟩
    refine ⟨fun hb=>?_,fun hb=>?_⟩
    · have h:=cond_t hb h
      exact lfe_of h
    · have h:=cond_f hb h
      refine ⟨fun hb=>?_,fun hb=>?_⟩
      · have h:=cond_t hb h
        exact lfe_of h
      · have h:=cond_f hb h
        obtain ⟨q21,h⟩:=bget hx21 h
        refine ⟨s_shard_Shard_Weight (d+5) q21, ?_⟩
        refine ⟨by decide, ?_⟩
        obtain ⟨q22,h⟩:=bget hx22 h
        refine ⟨s_oR_Shard_Weight (d+6) q22, ?_⟩
        refine ⟨by decide, ?_⟩
        refine ⟨fun hb=>?_,fun hb=>?_⟩
        · have h:=cond_t hb h
          exact lfe_of h
        · have h:=cond_f hb h
          obtain ⟨q23,h⟩:=bget hx23 h
          refine ⟨s_shard_Shard_Image (d+4) q23, ?_⟩
          refine ⟨by decide, ?_⟩
          obtain ⟨q24,h⟩:=bget hx24 h
          refine ⟨s_oR_Shard_Image (d+6) q24, ?_⟩
          refine ⟨by decide, ?_⟩
          obtain ⟨q25,h⟩:=bget hx25 h
          refine ⟨s_oR_SameImage (d+6) q25, ?_⟩
          refine ⟨fun hb=>?_,fun hb=>?_⟩
          · have h:=cond_t hb h
            exact lfe_of h
          · have h:=cond_f hb h
            exact lfe_of h
  · have h:=cond_f hb h
    exact lfe_of h
theorem s_osmosislaw8_ShardTells_L0 (d:Nat) {asks:List oH_RawOp} {s16:Int × shard_Shard × oR_Shard} {r:Unit ⊕ (shard_Shard × oR_Shard)} (h:osmosislaw8_ShardTells_L0 asks s16=some r):RunX (bloop (bexec (wcalls atab (d+7)) KK 88 WB21_0) [13,14,40,41,42] KK) 0 (inL [13,14,40,41,42] (st_osmosislaw8_ShardTells_L0 asks s16)) (fin_osmosislaw8_ShardTells_L0 asks r) :=
  loop_of (st:=st_osmosislaw8_ShardTells_L0 asks) (fin:=fin_osmosislaw8_ShardTells_L0 asks) (step:=osmosislaw8_ShardTells_L0_s asks) (fun e=>by rcases e with e | e <;> (intro h; cases h)) (fun s x h=>b_osmosislaw8_ShardTells_L0 d h) KK s16 r h
def osmosislaw8_ShardTells (k:Int) (epoch:Int) (first:List oH_RawOp) (bend:Int) (asks:List oH_RawOp):Option (Bool) :=
  (oH_Image k epoch first bend).bind fun (x1:api_Image)=>(shard_Right x1).bind fun (x2:Bool)=>(oR_RightImage x1).bind fun (x3:Bool)=>cond (!(x2 == x3)) (some false) ((oH_Image k epoch first 0).bind fun (x4:api_Image)=>(shard_Of x4).bind fun (x5:shard_Shard)=>(oR_ShardFrom x4).bind fun (x6:oR_Shard)=>(osmosislaw8_ShardTells_L0 asks (0,x5,x6)).bind fun (x26:Unit ⊕ (shard_Shard × oR_Shard))=>cond (isL x26) (some false) ((osmosislaw8_known).bind fun (x28:Bool)=>cond x28 ((shard_Shard_Image (getR x26).1).bind fun (x29:api_Image)=>(oR_Shard_Image (getR x26).2).bind fun (x30:api_Image)=>(oR_SameImage x29 x30).bind fun (x31:Bool)=>some x31) (some false)))
def out_osmosislaw8_ShardTells (k:Int) (epoch:Int) (first:List oH_RawOp) (bend:Int) (asks:List oH_RawOp) (r:Bool):AV × WH:=((.bool r),[])
theorem s_osmosislaw8_ShardTells (d:Nat) {k:Int} {epoch:Int} {first:List oH_RawOp} {bend:Int} {asks:List oH_RawOp} {r:Bool} (h:osmosislaw8_ShardTells k epoch first bend asks=some r):Spec (wcalls atab (d+10)) 21 [(.int .i64 k),(.int .i64 epoch),(l_oH_RawOp first),(.int .i64 bend),(l_oH_RawOp asks)] [] (out_osmosislaw8_ShardTells k epoch first bend asks r).1 (out_osmosislaw8_ShardTells k epoch first bend asks r).2:=by
  obtain ⟨x1,hx1⟩:=wx (oH_Image k epoch first bend)
  obtain ⟨x2,hx2⟩:=wx (shard_Right x1)
  obtain ⟨x3,hx3⟩:=wx (oR_RightImage x1)
  obtain ⟨x4,hx4⟩:=wx (oH_Image k epoch first 0)
  obtain ⟨x5,hx5⟩:=wx (shard_Of x4)
  obtain ⟨x6,hx6⟩:=wx (oR_ShardFrom x4)
  obtain ⟨x26,hx26⟩:=wx (osmosislaw8_ShardTells_L0 asks (0,x5,x6))
  obtain ⟨x28,hx28⟩:=wx (osmosislaw8_known)
  obtain ⟨x29,hx29⟩:=wx (shard_Shard_Image (getR x26).1)
  obtain ⟨x30,hx30⟩:=wx (oR_Shard_Image (getR x26).2)
  obtain ⟨x31,hx31⟩:=wx (oR_SameImage x29 x30)
  have e:∀ C:ACalls,wBody C (fun _=>none) KK WF21 [(.int .i64 k),(.int .i64 epoch),(l_oH_RawOp first),(.int .i64 bend),(l_oH_RawOp asks)] [] (.call [] (some false) [.undef,.undef,.slice none 8 0 0 true] (.agg (e_api_Image x1)) [] (.z 11 [.undef,.undef,.slice none 2 0 0 true,.slice none 4 0 0 true] (.st none (.cb [] [.agg [.undef,.undef,.slice none 2 0 0 true,.slice none 4 0 0 true]] (.bool x2) (.cb [] [.agg [.undef,.undef,.slice none 2 0 0 true,.slice none 4 0 0 true]] (.bool x3) (.br 31 (.fin (some false) [] none) (.call [] (some false) [.undef,.undef,.slice none 8 0 0 true] (.agg (e_api_Image x4)) [] (.z 12 [.undef,.undef,.slice none 2 0 0 true,.slice none 4 0 0 true] (.st none (.call [] (some false) [.agg [.undef,.undef,.slice none 2 0 0 true,.slice none 4 0 0 true]] (.agg (e_shard_Shard x5)) [] (.z 13 [.slice none 2 0 0 true,.undef,.undef,.undef,.undef,.undef,.undef,.undef,.undef,.undef,.undef,.undef,.undef,.undef,.undef,.undef,.undef,.undef,.undef] (.st none (.call [] (some false) [.agg [.undef,.undef,.slice none 2 0 0 true,.slice none 4 0 0 true]] (.ptr (some (0,0))) [(some (.cells (e_oR_Shard x6) false false))] (.ite (isL x26) (.lp [none,none,none,none,none] [] [.undef,.undef,.slice none 8 0 0 true,.undef,.undef] .ret [(10,(.bool false))] [] (.fin (some false) [] none)) (.lp [none,none,none,none,none] [] [.undef,.undef,.slice none 8 0 0 true,.undef,.undef] (.exit 0) [(13,(.ptr (some (0,0)))),(14,(.ptr (some (1,0))))] [(some (.cells (e_shard_Shard (getR x26).1) false false)),(some (.cells (e_oR_Shard (getR x26).2) false false))] (.cb [] [] (.bool x28) (.br 82 (.call [] (some false) [] (.agg (e_api_Image x29)) [(some (.cells (e_shard_Shard (getR x26).1) false false))] (.call [] (some false) [] (.agg (e_api_Image x30)) [(some (.cells (e_oR_Shard (getR x26).2) false false))] (.cb [] [.agg [.undef,.undef,.slice none 2 0 0 true,.slice none 4 0 0 true],.agg [.undef,.undef,.slice none 2 0 0 true,.slice none 4 0 0 true]] (.bool x31) (.fin (some false) [] none)))) (.fin (some false) [] none)))))))))))))))))) (out_osmosislaw8_ShardTells k epoch first bend asks r).1 (out_osmosislaw8_ShardTells k epoch first bend asks r).2=(5=5∧5≤88∧(Spec C 74 [(.int .i64 k),(.int .i64 epoch),(l_oH_RawOp first),(.int .i64 bend)] [] (.agg (e_api_Image x1)) []∧(0≤0∧(Spec C 73 [(.agg (e_api_Image x1))] [] (.bool x2) []∧(Spec C 75 [(.agg (e_api_Image x1))] [] (.bool x3) []∧(((!(x2 == x3))=true→lff (out_osmosislaw8_ShardTells k epoch first bend asks) false r)∧((!(x2 == x3))=false→(Spec C 74 [(.int .i64 k),(.int .i64 epoch),(l_oH_RawOp first),(.int .i64 0)] [] (.agg (e_api_Image x4)) []∧(0≤0∧(Spec C 65 [(.agg (e_api_Image x4))] [] (.agg (e_shard_Shard x5)) []∧(0≤0∧(Spec C 76 [(.agg (e_api_Image x4))] [] (.ptr (some (0,0))) [(some (.cells (e_oR_Shard x6) false false))]∧(0≤1∧(((isL x26)=true→(RunS (bloop (bexec C KK 88 WB21_0) [13,14,40,41,42] KK) 0 [(13,(.ptr (some (0,0)))),(14,(.ptr (some (1,0)))),(40,(l_oH_RawOp asks)),(41,(.int .i64 (asks.length:Int))),(42,(.int .i64 0))] [(some (.cells (e_shard_Shard x5) false false)),(some (.cells (e_oR_Shard x6) false false))] .ret [(10,(.bool false))] []∧lff (out_osmosislaw8_ShardTells k epoch first bend asks) false r))∧((isL x26)=false→(RunS (bloop (bexec C KK 88 WB21_0) [13,14,40,41,42] KK) 0 [(13,(.ptr (some (0,0)))),(14,(.ptr (some (1,0)))),(40,(l_oH_RawOp asks)),(41,(.int .i64 (asks.length:Int))),(42,(.int .i64 0))] [(some (.cells (e_shard_Shard x5) false false)),(some (.cells (e_oR_Shard x6) false false))] (.exit 0) [(13,(.ptr (some (0,0)))),(14,(.ptr (some (1,0))))] [(some (.cells (e_shard_Shard (getR x26).1) false false)),(some (.cells (e_oR_Shard (getR x26).2) false false))]∧(Spec C 69 [] [] (.bool x28) []∧((x28=true→(Spec C 67 [(.ptr (some (0,0)))] [(some (.cells (e_shard_Shard (getR x26).1) false false))] (.agg (e_api_Image x29)) [(some (.cells (e_shard_Shard (getR x26).1) false false))]∧(1≤1∧(Spec C 79 [(.ptr (some (0,0)))] [(some (.cells (e_oR_Shard (getR x26).2) false false))] (.agg (e_api_Image x30)) [(some (.cells (e_oR_Shard (getR x26).2) false false))]∧(1≤1∧(Spec C 68 [(.agg (e_api_Image x29)),(.agg (e_api_Image x30))] [] (.bool x31) []∧lff (out_osmosislaw8_ShardTells k epoch first bend asks) x31 r))))))∧(x28=false→lff (out_osmosislaw8_ShardTells k epoch first bend asks) false r))))))))))))))))))):=fun C=>by kernel_rfl
  refine spec_of (fun _ _ h=>by cases h) rfl atab_21 WF21_ok ((e _).mpr ⟨rfl,by decide, ?_⟩)
  unfold osmosislaw8_ShardTells at h
  obtain ⟨q1,h⟩:=bget hx1 h
  refine ⟨s_oH_Image (d+4) q1, ?_⟩
  refine ⟨by decide, ?_⟩
  obtain ⟨q2,h⟩:=bget hx2 h
  refine ⟨s_shard_Right (d+0) q2, ?_⟩
  obtain ⟨q3,h⟩:=bget hx3 h
  refine ⟨s_oR_RightImage (d+4) q3, ?_⟩
  refine ⟨fun hb=>?_,fun hb=>?_⟩
  · have h:=cond_t hb h
    exact lff_of h
  · have h:=cond_f hb h
    obtain ⟨q4,h⟩:=bget hx4 h
    refine ⟨s_oH_Image (d+4) q4, ?_⟩
    refine ⟨by decide, ?_⟩
    obtain ⟨q5,h⟩:=bget hx5 h
    refine ⟨s_shard_Of (d+1) q5, ?_⟩
    refine ⟨by decide, ?_⟩
    obtain ⟨q6,h⟩:=bget hx6 h
    refine ⟨s_oR_ShardFrom (d+5) q6, ?_⟩
    refine ⟨by decide, ?_⟩
    obtain ⟨q26,h⟩:=bget hx26 h
    refine ⟨fun hb27=>?_,fun hb27=>?_⟩
    · have h:=cond_t hb27 h
      refine ⟨by have h:=s_osmosislaw8_ShardTells_L0 (d+2) q26; rw [isL_t hb27] at h; exact h, ?_⟩
      exact lff_of h
    · have h:=cond_f hb27 h
      refine ⟨by have h:=s_osmosislaw8_ShardTells_L0 (d+2) q26; rw [isL_f hb27] at h; exact h, ?_⟩
      obtain ⟨q28,h⟩:=bget hx28 h
      refine ⟨s_osmosislaw8_known (d+0) q28, ?_⟩
      refine ⟨fun hb=>?_,fun hb=>?_⟩
      · have h:=cond_t hb h
        obtain ⟨q29,h⟩:=bget hx29 h
        refine ⟨s_shard_Shard_Image (d+6) q29, ?_⟩
        refine ⟨by decide, ?_⟩
        obtain ⟨q30,h⟩:=bget hx30 h
        refine ⟨s_oR_Shard_Image (d+8) q30, ?_⟩
        refine ⟨by decide, ?_⟩
        obtain ⟨q31,h⟩:=bget hx31 h
        refine ⟨s_oR_SameImage (d+8) q31, ?_⟩
        exact lff_of h
      · have h:=cond_f hb h
        exact lff_of h
end Go.Proofs.Ytachollgbplikaa
