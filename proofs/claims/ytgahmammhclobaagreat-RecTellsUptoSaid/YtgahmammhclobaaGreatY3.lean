import Derived.Test.YtgahmammhclobaaGreatXt
import Derived.Test.YtgahmammhclobaaGreatXs
import Derived.Test.YtgahmammhclobaaGreatY2
set_option linter.all false
set_option maxRecDepth 100000
namespace Go.Proofs.YtgahmammhclobaaGreat
def table_Table_put_2 (o:api_Op) (k:Int) (had:Bool) (p_b1:List api_Pair):Option (api_Answer × List api_Pair) :=
 cond had ((table_Table_set_2 k o.Value p_b1).bind fun (x1:List api_Pair)=>some ((⟨0,([]:List UInt8)⟩:api_Answer),x1)) (cond ((p_b1.length:Int) == 8) (some ((⟨5,([]:List UInt8)⟩:api_Answer),p_b1)) (gd (fitsB 32 p_b1.length) (gd (insB 32 k p_b1.length) (some ((⟨0,([]:List UInt8)⟩:api_Answer),(insL p_b1 k (⟨o.Key,o.Value⟩:api_Pair)))))))
def out_table_Table_put_2 (o:api_Op) (k:Int) (had:Bool) (p_b1:List api_Pair) (r:api_Answer × List api_Pair):AV × WH:=((.agg (e_api_Answer r.1)),[(some (.cells [(.acc 2 0 2 r.2.length true)] false false)),none,(some (.cells (F_api_Pair r.2) false true))])
theorem s_table_Table_put_2 (d:Nat) {o:api_Op} {k:Int} {had:Bool} {p_b1:List api_Pair} {r:api_Answer × List api_Pair} (h:table_Table_put_2 o k had p_b1=some r):Spec (wcalls atab (d+3)) 164 [(.ptr (some (0,0))),(.agg (e_api_Op o)),(.int .i64 k),(.bool had)] [(some (.cells [(.acc 1 0 2 p_b1.length true)] false false)),(some (.cells (F_api_Pair p_b1) false true))] (out_table_Table_put_2 o k had p_b1 r).1 (out_table_Table_put_2 o k had p_b1 r).2:=by
 unfold table_Table_put_2 at h
 exact spec_by (wB_ok _) AF164 h (.br 25 (fun _=>.bd fun x1 q1=>Cl0 (s_table_Table_set_2 (d+0) q1) <| .st none <| .kl [1] <| Fn Fo [] Tw) fun _=>.br 32 (fun _=>.st none <| Fn Fo [] Tw) fun _=>.gd fun q2=>.ob q2 <| .gd fun q3=>.ob (insB_1 q3:(0≤k∧k≤((p_b1.length:Nat):Int))) <| .ap 22 (insL p_b1 k (⟨o.Key,o.Value⟩:api_Pair)).length (F_api_Pair (insL p_b1 k (⟨o.Key,o.Value⟩:api_Pair))) <| .ob (insB_2 (l:=p_b1) q3:p_b1.length+1=(insL p_b1 k (⟨o.Key,o.Value⟩:api_Pair)).length) <| .ob (ins_row R_api_Pair rfl:(F_api_Pair p_b1).take (k.toNat * 2) ++ ([(.str o.Key),(.str o.Value)] ++ (F_api_Pair p_b1).drop (k.toNat * 2))=F_api_Pair (insL p_b1 k (⟨o.Key,o.Value⟩:api_Pair))) <| .ob (insB_3 (l:=p_b1) q3:fitsB 32 (insL p_b1 k (⟨o.Key,o.Value⟩:api_Pair)).length=true) <| .st none <| .st none <| .kl [1] <| Fn Fo [] Tw)
def table_Table_Do_2 (o:api_Op) (p_b1:List api_Pair):Option (api_Answer × List api_Pair) :=
 (table_Right o).bind fun (x1:Bool)=>cond (!x1) (some ((⟨1,([]:List UInt8)⟩:api_Answer),p_b1)) ((table_Table_find_2 o.Key p_b1).bind fun (x2:Int × Bool)=>cond (o.Kind == 2) ((table_Table_put_2 o x2.1 x2.2 p_b1).bind fun (x3:api_Answer × List api_Pair)=>some (x3.1,x3.2)) (cond (!x2.2) (some ((⟨4,([]:List UInt8)⟩:api_Answer),p_b1)) (cond (o.Kind == 1) ((getI p_b1 x2.1).bind fun (x4:api_Pair)=>some ((⟨0,x4.Value⟩:api_Answer),p_b1)) (cond (o.Kind == 4) ((table_Table_cas_2 o x2.1 p_b1).bind fun (x5:api_Answer × List api_Pair)=>some (x5.1,x5.2)) (gd (fitsB 32 p_b1.length) (gd (delB x2.1 (IntKind.i64.wrap (x2.1+1)) p_b1.length) (some ((⟨0,([]:List UInt8)⟩:api_Answer),(delL p_b1 x2.1 (IntKind.i64.wrap (x2.1+1)))))))))))
def out_table_Table_Do_2 (o:api_Op) (p_b1:List api_Pair) (r:api_Answer × List api_Pair):AV × WH:=((.agg (e_api_Answer r.1)),[(some (.cells [(.acc 2 0 2 r.2.length true)] false false)),none,(some (.cells (F_api_Pair r.2) false true))])
theorem s_table_Table_Do_2 (d:Nat) {o:api_Op} {p_b1:List api_Pair} {r:api_Answer × List api_Pair} (h:table_Table_Do_2 o p_b1=some r):Spec (wcalls atab (d+6)) 161 [(.ptr (some (0,0))),(.agg (e_api_Op o))] [(some (.cells [(.acc 1 0 2 p_b1.length true)] false false)),(some (.cells (F_api_Pair p_b1) false true))] (out_table_Table_Do_2 o p_b1 r).1 (out_table_Table_Do_2 o p_b1 r).2:=by
 unfold table_Table_Do_2 at h
 exact spec_by (wB_ok _) AF161 h (.bd fun x1 q1=>Cb0 (s_table_Right (d+4) q1) <| .br 9 (fun _=>.st none <| Fn Fo [] Tw) fun _=>.bd fun x2 q2=>Cl0 (s_table_Table_find_2 (d+0) q2) <| .br 18 (fun _=>.bd fun x3 q3=>Cl0 (s_table_Table_put_2 (d+2) q3) <| .st none <| Fn Fo [] Tw) fun _=>.br 27 (fun _=>.st none <| Fn Fo [] Tw) fun _=>.br 31 (fun _=>.bd fun x4 q4=>Ia R_api_Pair 40 1 q4 <| Ld R_api_Pair 42 false 1 1 q4 (.str x4.Value) rfl <| .st none <| Fn Fo [] Tw) fun _=>.br 44 (fun _=>.bd fun x5 q5=>Cl0 (s_table_Table_cas_2 (d+2) q5) <| .st none <| Fn Fo [] Tw) fun _=>.gd fun q6=>.ob q6 <| .gd fun q7=>.ob (delB_1 q7:(0≤x2.1∧x2.1 < (IntKind.i64.wrap (x2.1+1))∧(IntKind.i64.wrap (x2.1+1))≤((p_b1.length:Nat):Int))) <| .ap 61 (delL p_b1 x2.1 (IntKind.i64.wrap (x2.1+1))).length (F_api_Pair (delL p_b1 x2.1 (IntKind.i64.wrap (x2.1+1)))) <| .ob (delB_2 (l:=p_b1) q7:p_b1.length - ((IntKind.i64.wrap (x2.1+1)).toNat - x2.1.toNat)=(delL p_b1 x2.1 (IntKind.i64.wrap (x2.1+1))).length) <| .ob (del_row R_api_Pair:(F_api_Pair p_b1).take (x2.1.toNat * 2) ++ (F_api_Pair p_b1).drop ((IntKind.i64.wrap (x2.1+1)).toNat * 2)=F_api_Pair (delL p_b1 x2.1 (IntKind.i64.wrap (x2.1+1)))) <| .st none <| .st none <| .kl [1] <| Fn Fo [] Tw)
def st_table_Of_L0 (p:List api_Pair) (s5:Int × List api_Pair):List AV × WH:=([(.ptr (some (0,0))),(.ptr (some (1,0))),(l_api_Pair p),(.int .i64 (p.length:Int)),(.int .i64 s5.1)],[(some (.cells [(.acc 2 0 2 0 true)] false false)),(some (.cells [(.acc 3 0 2 s5.2.length true)] false false)),(some (.cells (F_api_Pair []) false true)),(some (.cells (F_api_Pair s5.2) false true))])
def fin_table_Of_L0 (p:List api_Pair):(List api_Pair)→Ex × Fast × WH:=fun e=>((.exit 0),[(2,(.ptr (some (0,0)))),(3,(.ptr (some (1,0))))],[(some (.cells [(.acc 2 0 2 0 true)] false false)),(some (.cells [(.acc 3 0 2 e.length true)] false false)),(some (.cells (F_api_Pair []) false true)),(some (.cells (F_api_Pair e) false true))])
abbrev rx_table_Of_L0 (p:List api_Pair):=roundX [2,3,6,7,8] (st_table_Of_L0 p) (fin_table_Of_L0 p)
def table_Of_L0_s (p:List api_Pair) (s5:Int × List api_Pair):Option ((Int × List api_Pair) ⊕ ((List api_Pair))) :=
 cond (decide (s5.1 < (p.length:Int))) ((getI p s5.1).bind fun (x6:api_Pair)=>(table_Table_Do_2 (⟨2,x6.Key,x6.Value,([]:List UInt8)⟩:api_Op) s5.2).bind fun (x7:api_Answer × List api_Pair)=>some (.inl ((IntKind.i64.wrap (s5.1+1)),x7.2))) (some (.inr s5.2))
def table_Of_L0 (p:List api_Pair) (s5:Int × List api_Pair):Option ((List api_Pair)):=loopX (table_Of_L0_s p) KK s5
theorem b_table_Of_L0 (d:Nat) {p:List api_Pair} {s5:Int × List api_Pair} {r:(Int × List api_Pair) ⊕ ((List api_Pair))} (h:table_Of_L0_s p s5=some r):RunX (bexec (wcalls atab (d+6)) KK 20 WB153_0) 0 (inL [2,3,6,7,8] (st_table_Of_L0 p s5)) (rx_table_Of_L0 p r):=by
 unfold table_Of_L0_s at h
 exact run_by nB WB153_0_ok h (.br 9 (fun _=>.bd fun x6 q6=>Ix R_api_Pair 10 q6 <| .st none <| .bd fun x7 q7=>Cl0 (s_table_Table_Do_2 (d+0) q7) <| E1 [2,3,6,7,8] [none,none,none,none,none] [] [.undef,.undef,.slice none 2 0 0 true,.undef,.undef]) fun _=>E0 [2,3])
theorem s_table_Of_L0 (d:Nat) {p:List api_Pair} {s5:Int × List api_Pair} {r:(List api_Pair)} (h:table_Of_L0 p s5=some r):RunX (bloop (bexec (wcalls atab (d+6)) KK 20 WB153_0) [2,3,6,7,8] KK) 0 (inL [2,3,6,7,8] (st_table_Of_L0 p s5)) (fin_table_Of_L0 p r) :=
 loop_of (st:=st_table_Of_L0 p) (fin:=fin_table_Of_L0 p) (step:=table_Of_L0_s p) (fun e=>by (intro h; cases h)) (fun s x h=>b_table_Of_L0 d h) KK s5 r h
def table_Of (p:List api_Pair):Option (table_Table) :=
 (table_Of_L0 p (0,[])).bind fun (x8:(List api_Pair))=>some (⟨x8⟩:table_Table)
def out_table_Of (p:List api_Pair) (r:table_Table):AV × WH:=((.agg (e_table_Table r)),[])
theorem s_table_Of (d:Nat) {p:List api_Pair} {r:table_Table} (h:table_Of p=some r):Spec (wcalls atab (d+7)) 153 [(l_api_Pair p)] [] (out_table_Of p r).1 (out_table_Of p r).2:=by
 unfold table_Of at h
 exact spec_by nB AF153 h (.z 2 [.slice none 2 0 0 true] <| .z 3 [.slice none 2 0 0 true] <| .bd fun x8 q8=>Lp [none,none,none,none,none] [Tw,Tw,Tw,Tw] [.undef,.undef,.slice none 2 0 0 true,.undef,.undef] (s_table_Of_L0 (d+0) q8) <| .st none <| Fn Fo [.agg [.slice none 2 0 0 true]] none)
abbrev in_session_Sessions_Note_J0 (p_x:api_Sess) (p_s:session_Sessions):Fast × WH:=([(0,(.ptr (some (0,0)))),(3,(.ptr (some (1,0))))],[(some (.cells (e_session_Sessions p_s) false false)),(some (.cells (e_api_Sess p_x) false false))])
def fin_session_Sessions_Note_J0 (p_x:api_Sess) (p_s:session_Sessions):Unit ⊕ Unit→Ex × Fast × WH:=fun
 | .inl e=>(.ret,[(4,(.bool false))],[(some (.cells (e_session_Sessions p_s) false false))])
 | .inr e=>(.normal,[(0,(.ptr (some (0,0)))),(3,(.ptr (some (1,0))))],[(some (.cells (e_session_Sessions p_s) false false)),(some (.cells (e_api_Sess p_x) false false))])
def session_Sessions_Note_J0 (p_x:api_Sess) (p_s:session_Sessions):Option (Unit ⊕ Unit) :=
 cond (decide (p_x.Client < 0)) (some (.inl ())) (cond (decide (p_x.Client ≥ 4)) (some (.inl ())) (cond (decide (p_x.Seq < 1)) (some (.inl ())) ((getI (p_s.l.toL) p_x.Client).bind fun (x1:api_Sess)=>cond (decide (p_x.Seq≤x1.Seq)) (some (.inl ())) (some (.inr ())))))
theorem s_session_Sessions_Note_J0 (d:Nat) {p_x:api_Sess} {p_s:session_Sessions} {r:Unit ⊕ Unit} (h:session_Sessions_Note_J0 p_x p_s=some r):RunX (bexec (wcalls atab (d+0)) KK 38 WJ162_ba) 1 (in_session_Sessions_Note_J0 p_x p_s) (fin_session_Sessions_Note_J0 p_x p_s r):=by
 unfold session_Sessions_Note_J0 at h
 exact run_by nB WJ162_ba_ok h (.br 8 (fun _=>E0 [4]) fun _=>.br 13 (fun _=>E0 [4]) fun _=>.br 18 (fun _=>E0 [4]) fun _=>.bd fun x1 q1=>.v 26 (.ptr (some (0,0+p_x.Client.toNat * 4))) <| .ob (wP_arr q1 rfl:wP (.idxArr 4 4 (.c (.ptr (some (0,0)))) (.c (.int .i64 p_x.Client)))=some (.ptr (some (0,0+p_x.Client.toNat * 4)))) <| .v 28 (.int .i64 x1.Seq) <| .ob (cP_arr (p:=0) (o:=1) R_api_Sess q1 rfl rfl:cPart false (0+p_x.Client.toNat * 4+1) 1 (e_session_Sessions p_s)=some (.int .i64 x1.Seq)) <| .br 30 (fun _=>E0 [4]) fun _=>E0 [0,3])
def session_Sessions_Note (p_x:api_Sess) (p_s:session_Sessions):Option (Bool × session_Sessions) :=
 (session_Sessions_Note_J0 p_x p_s).bind fun (x2:Unit ⊕ Unit)=>cond (isL x2) (some (false,p_s)) ((getI (p_s.l.toL) p_x.Client).bind fun (x4:api_Sess)=>some (true,(⟨(p_s.l.set p_x.Client p_x)⟩:session_Sessions)))
def out_session_Sessions_Note (p_x:api_Sess) (p_s:session_Sessions) (r:Bool × session_Sessions):AV × WH:=((.bool r.1),[(some (.cells (e_session_Sessions r.2) false false))])
theorem s_session_Sessions_Note (d:Nat) {p_x:api_Sess} {p_s:session_Sessions} {r:Bool × session_Sessions} (h:session_Sessions_Note p_x p_s=some r):Spec (wcalls atab (d+1)) 162 [(.ptr (some (0,0))),(.agg (e_api_Sess p_x))] [(some (.cells (e_session_Sessions p_s) false false))] (out_session_Sessions_Note p_x p_s r).1 (out_session_Sessions_Note p_x p_s r).2:=by
 unfold session_Sessions_Note at h
 exact spec_by nB AF162 h (.sk <| .bd fun x2 q2=>.ite (fun hb3=>Jn [0,3] [none,none] [] [] (rwr (il hb3) (s_session_Sessions_Note_J0 (d+0) q2)) <| Fn Fo [] none) fun hb3=>Jn [0,3] [none,none] [] [] (rwr (ir0 hb3) (s_session_Sessions_Note_J0 (d+0) q2)) <| .bd fun x4 q4=>.v 37 (.ptr (some (0,0+p_x.Client.toNat * 4))) <| .ob (wP_arr q4 rfl:wP (.idxArr 4 4 (.c (.ptr (some (0,0)))) (.c (.int .i64 p_x.Client)))=some (.ptr (some (0,0+p_x.Client.toNat * 4)))) <| .st (some (e_session_Sessions (⟨(p_s.l.set p_x.Client p_x)⟩:session_Sessions))) <| .ob (wr_arr (p:=0) (o:=0) R_api_Sess q4 (A4.toL_set _ q4) rfl (Nat.le_of_ble_eq_true rfl) rfl rfl:wrC (e_session_Sessions p_s) (0+p_x.Client.toNat * 4) [(.int .i64 p_x.Client),(.int .i64 p_x.Seq),(.int .i64 p_x.Answer.Why),(.str p_x.Answer.Value)]=some (e_session_Sessions (⟨(p_s.l.set p_x.Client p_x)⟩:session_Sessions))) <| Fn Fo [] none)
def st_session_OfAll_L0 (l:List api_Sess) (s3:Int × session_Sessions):List AV × WH:=([(.ptr (some (0,0))),(.ptr (some (1,0))),(l_api_Sess l),(.int .i64 (l.length:Int)),(.int .i64 s3.1)],[(some (.cells (e_session_Sessions (⟨(⟨(⟨0,0,(⟨0,([]:List UInt8)⟩:api_Answer)⟩:api_Sess),(⟨0,0,(⟨0,([]:List UInt8)⟩:api_Answer)⟩:api_Sess),(⟨0,0,(⟨0,([]:List UInt8)⟩:api_Answer)⟩:api_Sess),(⟨0,0,(⟨0,([]:List UInt8)⟩:api_Answer)⟩:api_Sess)⟩:A4 api_Sess)⟩:session_Sessions)) false false)),(some (.cells (e_session_Sessions s3.2) false false))])
def fin_session_OfAll_L0 (l:List api_Sess):session_Sessions→Ex × Fast × WH:=fun e=>((.exit 0),[(2,(.ptr (some (0,0)))),(3,(.ptr (some (1,0))))],[(some (.cells (e_session_Sessions (⟨(⟨(⟨0,0,(⟨0,([]:List UInt8)⟩:api_Answer)⟩:api_Sess),(⟨0,0,(⟨0,([]:List UInt8)⟩:api_Answer)⟩:api_Sess),(⟨0,0,(⟨0,([]:List UInt8)⟩:api_Answer)⟩:api_Sess),(⟨0,0,(⟨0,([]:List UInt8)⟩:api_Answer)⟩:api_Sess)⟩:A4 api_Sess)⟩:session_Sessions)) false false)),(some (.cells (e_session_Sessions e) false false))])
abbrev rx_session_OfAll_L0 (l:List api_Sess):=roundX [2,3,6,7,8] (st_session_OfAll_L0 l) (fin_session_OfAll_L0 l)
def session_OfAll_L0_s (l:List api_Sess) (s3:Int × session_Sessions):Option ((Int × session_Sessions) ⊕ (session_Sessions)) :=
 cond (decide (s3.1 < (l.length:Int))) ((getI l s3.1).bind fun (x4:api_Sess)=>(session_Sessions_Note x4 s3.2).bind fun (x5:Bool × session_Sessions)=>some (.inl ((IntKind.i64.wrap (s3.1+1)),x5.2))) (some (.inr s3.2))
def session_OfAll_L0 (l:List api_Sess) (s3:Int × session_Sessions):Option (session_Sessions):=loopX (session_OfAll_L0_s l) KK s3
theorem b_session_OfAll_L0 (d:Nat) {l:List api_Sess} {s3:Int × session_Sessions} {r:(Int × session_Sessions) ⊕ (session_Sessions)} (h:session_OfAll_L0_s l s3=some r):RunX (bexec (wcalls atab (d+1)) KK 16 WB154_0) 0 (inL [2,3,6,7,8] (st_session_OfAll_L0 l s3)) (rx_session_OfAll_L0 l r):=by
 unfold session_OfAll_L0_s at h
 exact run_by nB WB154_0_ok h (.br 9 (fun _=>.bd fun x4 q4=>Ix R_api_Sess 10 q4 <| .st none <| .bd fun x5 q5=>Cl [] Fo [] (s_session_Sessions_Note (d+0) q5) <| E1 [2,3,6,7,8] [none,none,none,none,none] [] [.undef,.undef,.slice none 4 0 0 true,.undef,.undef]) fun _=>E0 [2,3])
theorem s_session_OfAll_L0 (d:Nat) {l:List api_Sess} {s3:Int × session_Sessions} {r:session_Sessions} (h:session_OfAll_L0 l s3=some r):RunX (bloop (bexec (wcalls atab (d+1)) KK 16 WB154_0) [2,3,6,7,8] KK) 0 (inL [2,3,6,7,8] (st_session_OfAll_L0 l s3)) (fin_session_OfAll_L0 l r) :=
 loop_of (st:=st_session_OfAll_L0 l) (fin:=fin_session_OfAll_L0 l) (step:=session_OfAll_L0_s l) (fun e=>by (intro h; cases h)) (fun s x h=>b_session_OfAll_L0 d h) KK s3 r h
def session_OfAll (l:List api_Sess):Option (session_Sessions) :=
 (session_OfAll_L0 l (0,(⟨(⟨(⟨0,0,(⟨0,([]:List UInt8)⟩:api_Answer)⟩:api_Sess),(⟨0,0,(⟨0,([]:List UInt8)⟩:api_Answer)⟩:api_Sess),(⟨0,0,(⟨0,([]:List UInt8)⟩:api_Answer)⟩:api_Sess),(⟨0,0,(⟨0,([]:List UInt8)⟩:api_Answer)⟩:api_Sess)⟩:A4 api_Sess)⟩:session_Sessions))).bind fun (x6:session_Sessions)=>some x6
def out_session_OfAll (l:List api_Sess) (r:session_Sessions):AV × WH:=((.agg (e_session_Sessions r)),[])
theorem s_session_OfAll (d:Nat) {l:List api_Sess} {r:session_Sessions} (h:session_OfAll l=some r):Spec (wcalls atab (d+2)) 154 [(l_api_Sess l)] [] (out_session_OfAll l r).1 (out_session_OfAll l r).2:=by
 unfold session_OfAll at h
 exact spec_by nB AF154 h (.bd fun x6 q6=>Lp [none,none,none,none,none] [] [.undef,.undef,.slice none 4 0 0 true,.undef,.undef] (s_session_OfAll_L0 (d+0) q6) <| .st none <| Fn Fo [] none)
def shard_Of (p_x:api_Image):Option (shard_Shard) :=
 (table_Of p_x.Pairs).bind fun (x1:table_Table)=>(session_OfAll p_x.Sess).bind fun (x2:session_Sessions)=>some (⟨x1,x2,p_x.Shard,p_x.Epoch⟩:shard_Shard)
def out_shard_Of (p_x:api_Image) (r:shard_Shard):AV × WH:=((.agg (e_shard_Shard r)),[])
theorem s_shard_Of (d:Nat) {p_x:api_Image} {r:shard_Shard} (h:shard_Of p_x=some r):Spec (wcalls atab (d+8)) 132 [(.agg (e_api_Image p_x))] [] (out_shard_Of p_x r).1 (out_shard_Of p_x r).2:=by
 unfold shard_Of at h
 exact spec_by nB AF132 h (.z 2 [.slice none 2 0 0 true,.undef,.undef,.undef,.undef,.undef,.undef,.undef,.undef,.undef,.undef,.undef,.undef,.undef,.undef,.undef,.undef,.undef,.undef] <| .bd fun x1 q1=>Cl [] Fo [.slice none 2 0 0 true] (s_table_Of (d+0) q1) <| .er <| .ob (rfl:@Eq (Option AV) (some (l_api_Sess p_x.Sess)) (some (l_api_Sess p_x.Sess))) <| .bd fun x2 q2=>Cb [.slice none 4 0 0 true] (s_session_OfAll (d+5) q2) <| .st none <| Fn Fo [.agg [.slice none 2 0 0 true,.undef,.undef,.undef,.undef,.undef,.undef,.undef,.undef,.undef,.undef,.undef,.undef,.undef,.undef,.undef,.undef,.undef,.undef]] none)
def table_Table_Pairs (t:shard_Shard):Option (List api_Pair) :=
 gd (fitsB 32 t.Table.l.length) (some t.Table.l)
def out_table_Table_Pairs (t:shard_Shard) (r:List api_Pair):AV × WH:=((l_api_Pair r),[(some (.cells (e_shard_Shard t) false false))])
theorem s_table_Table_Pairs (d:Nat) {t:shard_Shard} {r:List api_Pair} (h:table_Table_Pairs t=some r):Spec (wcalls atab (d+2)) 134 [(.ptr (some (0,0)))] [(some (.cells (e_shard_Shard t) false false))] (out_table_Table_Pairs t r).1 (out_table_Table_Pairs t r).2:=by
 unfold table_Table_Pairs at h
 exact spec_by (wB_ok _) AF134 h (.z 2 [.slice none 2 0 0 true] <| .gd fun q1=>.ob q1 <| Fn Fo [.slice none 2 0 0 true] none)
def st_slices_Equal_api_Pair_api_Pair_L0 (a0:List api_Pair) (a1:List api_Pair) (s3:Int):List AV × WH:=([(l_api_Pair a0),(l_api_Pair a1),(.int .i64 (a0.length:Int)),(.int .i64 s3)],[])
def fin_slices_Equal_api_Pair_api_Pair_L0 (a0:List api_Pair) (a1:List api_Pair):Unit ⊕ Unit→Ex × Fast × WH:=fun
 | .inl e=>(.ret,[(4,(.bool false))],[])
 | .inr e=>((.exit 0),[],[])
abbrev rx_slices_Equal_api_Pair_api_Pair_L0 (a0:List api_Pair) (a1:List api_Pair):=roundX [0,1,12,13] (st_slices_Equal_api_Pair_api_Pair_L0 a0 a1) (fin_slices_Equal_api_Pair_api_Pair_L0 a0 a1)
def slices_Equal_api_Pair_api_Pair_L0_s (a0:List api_Pair) (a1:List api_Pair) (s3:Int):Option ((Int) ⊕ (Unit ⊕ Unit)) :=
 cond (decide (s3 < (a0.length:Int))) ((getI a0 s3).bind fun (x4:api_Pair)=>(getI a1 s3).bind fun (x5:api_Pair)=>cond (!(x4.Key == x5.Key && (x4.Value == x5.Value && true))) (some (.inr (.inl ()))) (some (.inl (IntKind.i64.wrap (s3+1))))) (some (.inr (.inr ())))
def slices_Equal_api_Pair_api_Pair_L0 (a0:List api_Pair) (a1:List api_Pair) (s3:Int):Option (Unit ⊕ Unit):=loopX (slices_Equal_api_Pair_api_Pair_L0_s a0 a1) KK s3
theorem b_slices_Equal_api_Pair_api_Pair_L0 (d:Nat) {a0:List api_Pair} {a1:List api_Pair} {s3:Int} {r:(Int) ⊕ (Unit ⊕ Unit)} (h:slices_Equal_api_Pair_api_Pair_L0_s a0 a1 s3=some r):RunX (bexec (wcalls atab (d+0)) KK 26 WB133_0) 0 (inL [0,1,12,13] (st_slices_Equal_api_Pair_api_Pair_L0 a0 a1 s3)) (rx_slices_Equal_api_Pair_api_Pair_L0 a0 a1 r):=by
 unfold slices_Equal_api_Pair_api_Pair_L0_s at h
 exact run_by nB WB133_0_ok h (.br 14 (fun _=>.bd fun x4 q4=>Ix R_api_Pair 18 q4 <| .bd fun x5 q5=>Ix R_api_Pair 22 q5 <| .br 24 (fun _=>E0 [4]) fun _=>E1 [0,1,12,13] [none,none,none,none] [] [.slice none 2 0 0 true,.slice none 2 0 0 true,.undef,.undef]) fun _=>E0 [])
theorem s_slices_Equal_api_Pair_api_Pair_L0 (d:Nat) {a0:List api_Pair} {a1:List api_Pair} {s3:Int} {r:Unit ⊕ Unit} (h:slices_Equal_api_Pair_api_Pair_L0 a0 a1 s3=some r):RunX (bloop (bexec (wcalls atab (d+0)) KK 26 WB133_0) [0,1,12,13] KK) 0 (inL [0,1,12,13] (st_slices_Equal_api_Pair_api_Pair_L0 a0 a1 s3)) (fin_slices_Equal_api_Pair_api_Pair_L0 a0 a1 r) :=
 loop_of (st:=st_slices_Equal_api_Pair_api_Pair_L0 a0 a1) (fin:=fin_slices_Equal_api_Pair_api_Pair_L0 a0 a1) (step:=slices_Equal_api_Pair_api_Pair_L0_s a0 a1) (fun e=>by rcases e with e | e <;> (intro h; cases h)) (fun s x h=>b_slices_Equal_api_Pair_api_Pair_L0 d h) KK s3 r h
def slices_Equal_api_Pair_api_Pair (a0:List api_Pair) (a1:List api_Pair):Option (Bool) :=
 cond ((a0.length:Int) != (a1.length:Int)) (some false) ((slices_Equal_api_Pair_api_Pair_L0 a0 a1 0).bind fun (x6:Unit ⊕ Unit)=>cond (isL x6) (some false) (some true))
def out_slices_Equal_api_Pair_api_Pair (a0:List api_Pair) (a1:List api_Pair) (r:Bool):AV × WH:=((.bool r),[])
theorem s_slices_Equal_api_Pair_api_Pair (d:Nat) {a0:List api_Pair} {a1:List api_Pair} {r:Bool} (h:slices_Equal_api_Pair_api_Pair a0 a1=some r):Spec (wcalls atab (d+1)) 133 [(l_api_Pair a0),(l_api_Pair a1)] [] (out_slices_Equal_api_Pair_api_Pair a0 a1 r).1 (out_slices_Equal_api_Pair_api_Pair a0 a1 r).2:=by
 unfold slices_Equal_api_Pair_api_Pair at h
 exact spec_by nB AF133 h (.br 10 (fun _=>Fn Fo [] none) fun _=>.bd fun x6 q6=>.ite (fun hb7=>Lp [none,none,none,none] [] [.slice none 2 0 0 true,.slice none 2 0 0 true,.undef,.undef] (rwr (il hb7) (s_slices_Equal_api_Pair_api_Pair_L0 (d+0) q6)) <| Fn Fo [] none) fun hb7=>Lp [none,none,none,none] [] [.slice none 2 0 0 true,.slice none 2 0 0 true,.undef,.undef] (rwr (ir0 hb7) (s_slices_Equal_api_Pair_api_Pair_L0 (d+0) q6)) <| Fn Fo [] none)
def st_session_Sessions_All_L0 (p_s:shard_Shard) (s5:Int × List api_Sess):List AV × WH:=([(.acc 1 0 4 s5.2.length true),(.agg (e_session_Sessions p_s.Sessions)),(.int .i64 s5.1)],[(some (.cells (e_shard_Shard p_s) false false)),(some (.cells (F_api_Sess s5.2) false true))])
def fin_session_Sessions_All_L0 (p_s:shard_Shard):(List api_Sess)→Ex × Fast × WH:=fun e=>((.exit 0),[(3,(.acc 1 0 4 e.length true))],[(some (.cells (e_shard_Shard p_s) false false)),(some (.cells (F_api_Sess e) false true))])
abbrev rx_session_Sessions_All_L0 (p_s:shard_Shard):=roundX [3,9,10] (st_session_Sessions_All_L0 p_s) (fin_session_Sessions_All_L0 p_s)
def session_Sessions_All_L0_s (p_s:shard_Shard) (s5:Int × List api_Sess):Option ((Int × List api_Sess) ⊕ ((List api_Sess))) :=
 cond (decide (s5.1 < 4)) ((getI ([p_s.Sessions.l.a0,p_s.Sessions.l.a1,p_s.Sessions.l.a2,p_s.Sessions.l.a3]:List api_Sess) s5.1).bind fun (x6:api_Sess)=>cond (decide (x6.Seq > 0)) (gd (fitsB 40 (s5.2 ++ [x6]).length) (some (.inl ((IntKind.i64.wrap (s5.1+1)),(s5.2 ++ [x6]))))) (some (.inl ((IntKind.i64.wrap (s5.1+1)),s5.2)))) (some (.inr s5.2))
def session_Sessions_All_L0 (p_s:shard_Shard) (s5:Int × List api_Sess):Option ((List api_Sess)):=loopX (session_Sessions_All_L0_s p_s) KK s5
theorem b_session_Sessions_All_L0 (d:Nat) {p_s:shard_Shard} {s5:Int × List api_Sess} {r:(Int × List api_Sess) ⊕ ((List api_Sess))} (h:session_Sessions_All_L0_s p_s s5=some r):RunX (bexec (wcalls atab (d+0)) KK 23 WB136_0) 1 (inL [3,9,10] (st_session_Sessions_All_L0 p_s s5)) (rx_session_Sessions_All_L0 p_s r):=by
 unfold session_Sessions_All_L0_s at h
 exact run_by nB WB136_0_ok h (.br 11 (fun _=>.bd fun x6 q6=>.v 12 (.agg (e_api_Sess x6)) <| .ob (wP_ixA R_api_Sess q6:wP (.index true 4 4 (.c (.agg (F_api_Sess ([p_s.Sessions.l.a0,p_s.Sessions.l.a1,p_s.Sessions.l.a2,p_s.Sessions.l.a3])))) (.c (.int .i64 s5.1)))=some (.agg (e_api_Sess x6))) <| .st none <| .br 15 (fun _=>.gd fun q7=>Ap R_api_Sess 19 q7 <| E1 [3,9,10] [none,none,none] [] [.slice none 4 0 0 true,.undef,.undef]) fun _=>E1 [3,9,10] [none,none,none] [] [.slice none 4 0 0 true,.undef,.undef]) fun _=>E1 [3] [none] [] [.slice none 4 0 0 true])
theorem s_session_Sessions_All_L0 (d:Nat) {p_s:shard_Shard} {s5:Int × List api_Sess} {r:(List api_Sess)} (h:session_Sessions_All_L0 p_s s5=some r):RunX (bloop (bexec (wcalls atab (d+0)) KK 23 WB136_0) [3,9,10] KK) 1 (inL [3,9,10] (st_session_Sessions_All_L0 p_s s5)) (fin_session_Sessions_All_L0 p_s r) :=
 loop_of (st:=st_session_Sessions_All_L0 p_s) (fin:=fin_session_Sessions_All_L0 p_s) (step:=session_Sessions_All_L0_s p_s) (fun e=>by (intro h; cases h)) (fun s x h=>b_session_Sessions_All_L0 d h) KK s5 r h
def session_Sessions_All (p_s:shard_Shard):Option (List api_Sess) :=
 (session_Sessions_All_L0 p_s (0,[])).bind fun (x8:(List api_Sess))=>some x8
def out_session_Sessions_All (p_s:shard_Shard) (r:List api_Sess):AV × WH:=((l_api_Sess r),[(some (.cells (e_shard_Shard p_s) false false))])
theorem s_session_Sessions_All (d:Nat) {p_s:shard_Shard} {r:List api_Sess} (h:session_Sessions_All p_s=some r):Spec (wcalls atab (d+2)) 136 [(.ptr (some (0,1)))] [(some (.cells (e_shard_Shard p_s) false false))] (out_session_Sessions_All p_s r).1 (out_session_Sessions_All p_s r).2:=by
 unfold session_Sessions_All at h
 exact spec_by (wB_ok _) AF136 h (.z 2 [.slice none 4 0 0 true] <| .z 3 [.slice none 4 0 0 true] <| .bd fun x8 q8=>Lp [Tw,none,none] [] [.slice none 4 0 0 true,.undef,.undef] (s_session_Sessions_All_L0 (d+1) q8) <| Fn Fo [.slice none 4 0 0 true] none)
def st_slices_Equal_api_Sess_api_Sess_L0 (a0:List api_Sess) (a1:List api_Sess) (s3:Int):List AV × WH:=([(l_api_Sess a0),(l_api_Sess a1),(.int .i64 (a0.length:Int)),(.int .i64 s3)],[])
def fin_slices_Equal_api_Sess_api_Sess_L0 (a0:List api_Sess) (a1:List api_Sess):Unit ⊕ Unit→Ex × Fast × WH:=fun
 | .inl e=>(.ret,[(4,(.bool false))],[])
 | .inr e=>((.exit 0),[],[])
abbrev rx_slices_Equal_api_Sess_api_Sess_L0 (a0:List api_Sess) (a1:List api_Sess):=roundX [0,1,12,13] (st_slices_Equal_api_Sess_api_Sess_L0 a0 a1) (fin_slices_Equal_api_Sess_api_Sess_L0 a0 a1)
def slices_Equal_api_Sess_api_Sess_L0_s (a0:List api_Sess) (a1:List api_Sess) (s3:Int):Option ((Int) ⊕ (Unit ⊕ Unit)) :=
 cond (decide (s3 < (a0.length:Int))) ((getI a0 s3).bind fun (x4:api_Sess)=>(getI a1 s3).bind fun (x5:api_Sess)=>cond (!(x4.Client == x5.Client && (x4.Seq == x5.Seq && (x4.Answer.Why == x5.Answer.Why && (x4.Answer.Value == x5.Answer.Value && true))))) (some (.inr (.inl ()))) (some (.inl (IntKind.i64.wrap (s3+1))))) (some (.inr (.inr ())))
def slices_Equal_api_Sess_api_Sess_L0 (a0:List api_Sess) (a1:List api_Sess) (s3:Int):Option (Unit ⊕ Unit):=loopX (slices_Equal_api_Sess_api_Sess_L0_s a0 a1) KK s3
theorem b_slices_Equal_api_Sess_api_Sess_L0 (d:Nat) {a0:List api_Sess} {a1:List api_Sess} {s3:Int} {r:(Int) ⊕ (Unit ⊕ Unit)} (h:slices_Equal_api_Sess_api_Sess_L0_s a0 a1 s3=some r):RunX (bexec (wcalls atab (d+0)) KK 26 WB135_0) 0 (inL [0,1,12,13] (st_slices_Equal_api_Sess_api_Sess_L0 a0 a1 s3)) (rx_slices_Equal_api_Sess_api_Sess_L0 a0 a1 r):=by
 unfold slices_Equal_api_Sess_api_Sess_L0_s at h
 exact run_by nB WB135_0_ok h (.br 14 (fun _=>.bd fun x4 q4=>Ix R_api_Sess 18 q4 <| .bd fun x5 q5=>Ix R_api_Sess 22 q5 <| .br 24 (fun _=>E0 [4]) fun _=>E1 [0,1,12,13] [none,none,none,none] [] [.slice none 4 0 0 true,.slice none 4 0 0 true,.undef,.undef]) fun _=>E0 [])
theorem s_slices_Equal_api_Sess_api_Sess_L0 (d:Nat) {a0:List api_Sess} {a1:List api_Sess} {s3:Int} {r:Unit ⊕ Unit} (h:slices_Equal_api_Sess_api_Sess_L0 a0 a1 s3=some r):RunX (bloop (bexec (wcalls atab (d+0)) KK 26 WB135_0) [0,1,12,13] KK) 0 (inL [0,1,12,13] (st_slices_Equal_api_Sess_api_Sess_L0 a0 a1 s3)) (fin_slices_Equal_api_Sess_api_Sess_L0 a0 a1 r) :=
 loop_of (st:=st_slices_Equal_api_Sess_api_Sess_L0 a0 a1) (fin:=fin_slices_Equal_api_Sess_api_Sess_L0 a0 a1) (step:=slices_Equal_api_Sess_api_Sess_L0_s a0 a1) (fun e=>by rcases e with e | e <;> (intro h; cases h)) (fun s x h=>b_slices_Equal_api_Sess_api_Sess_L0 d h) KK s3 r h
def slices_Equal_api_Sess_api_Sess (a0:List api_Sess) (a1:List api_Sess):Option (Bool) :=
 cond ((a0.length:Int) != (a1.length:Int)) (some false) ((slices_Equal_api_Sess_api_Sess_L0 a0 a1 0).bind fun (x6:Unit ⊕ Unit)=>cond (isL x6) (some false) (some true))
def out_slices_Equal_api_Sess_api_Sess (a0:List api_Sess) (a1:List api_Sess) (r:Bool):AV × WH:=((.bool r),[])
theorem s_slices_Equal_api_Sess_api_Sess (d:Nat) {a0:List api_Sess} {a1:List api_Sess} {r:Bool} (h:slices_Equal_api_Sess_api_Sess a0 a1=some r):Spec (wcalls atab (d+1)) 135 [(l_api_Sess a0),(l_api_Sess a1)] [] (out_slices_Equal_api_Sess_api_Sess a0 a1 r).1 (out_slices_Equal_api_Sess_api_Sess a0 a1 r).2:=by
 unfold slices_Equal_api_Sess_api_Sess at h
 exact spec_by nB AF135 h (.br 10 (fun _=>Fn Fo [] none) fun _=>.bd fun x6 q6=>.ite (fun hb7=>Lp [none,none,none,none] [] [.slice none 4 0 0 true,.slice none 4 0 0 true,.undef,.undef] (rwr (il hb7) (s_slices_Equal_api_Sess_api_Sess_L0 (d+0) q6)) <| Fn Fo [] none) fun hb7=>Lp [none,none,none,none] [] [.slice none 4 0 0 true,.slice none 4 0 0 true,.undef,.undef] (rwr (ir0 hb7) (s_slices_Equal_api_Sess_api_Sess_L0 (d+0) q6)) <| Fn Fo [] none)
abbrev in_shard_answered_J0 (p_x:api_Sess):Fast × WH:=([(1,(.ptr (some (0,0)))),(5,(.int .i64 p_x.Answer.Why))],[(some (.cells (e_api_Sess p_x) false false))])
def fin_shard_answered_J0 (p_x:api_Sess):Bool→Ex × Fast × WH:=fun e=>(.normal,[(1,(.ptr (some (0,0)))),(6,(.bool e))],[(some (.cells (e_api_Sess p_x) false false))])
def shard_answered_J0 (p_x:api_Sess):Option (Bool) :=
 cond (p_x.Answer.Why == 0) (some true) (cond (p_x.Answer.Why == 4) (some true) (cond (p_x.Answer.Why == 5) (some true) (some (p_x.Answer.Why == 6))))
theorem s_shard_answered_J0 (d:Nat) {p_x:api_Sess} {r:Bool} (h:shard_answered_J0 p_x=some r):RunX (bexec (wcalls atab (d+0)) KK 21 WJ139_babka) 0 (in_shard_answered_J0 p_x) (fin_shard_answered_J0 p_x r):=by
 unfold shard_answered_J0 at h
 exact run_by nB WJ139_babka_ok h (.br 6 (fun _=>E0 [1,6]) fun _=>.br 6 (fun _=>E0 [1,6]) fun _=>.br 6 (fun _=>E0 [1,6]) fun _=>E0 [1,6])
def shard_answered (p_x:api_Sess):Option (Bool) :=
 (shard_answered_J0 p_x).bind fun (x1:Bool)=>cond x1 (cond (decide ((p_x.Answer.Value.length:Int)≤16)) (some (decide (p_x.Seq≤4611686018427387903))) (some false)) (some false)
def out_shard_answered (p_x:api_Sess) (r:Bool):AV × WH:=((.bool r),[])
theorem s_shard_answered (d:Nat) {p_x:api_Sess} {r:Bool} (h:shard_answered p_x=some r):Spec (wcalls atab (d+1)) 139 [(.agg (e_api_Sess p_x))] [] (out_shard_answered p_x r).1 (out_shard_answered p_x r).2:=by
 unfold shard_answered at h
 exact spec_by nB AF139 h (.sk <| .sk <| .sk <| .bd fun x1 q1=>Jn [1,5] [none,none] [] [] (s_shard_answered_J0 (d+0) q1) <| .br 6 (fun _=>.br 16 (fun _=>Fn Fo [] none) fun _=>Fn Fo [] none) fun _=>Fn Fo [] none)
def shard_Right_1 (y:api_Sess):Option (Bool) :=
 (shard_answered y).bind fun (x1:Bool)=>some (!x1)
def out_shard_Right_1 (y:api_Sess) (r:Bool):AV × WH:=((.bool r),[])
theorem s_shard_Right_1 (d:Nat) {y:api_Sess} {r:Bool} (h:shard_Right_1 y=some r):Spec (wcalls atab (d+2)) 138 [(.agg (e_api_Sess y))] [] (out_shard_Right_1 y r).1 (out_shard_Right_1 y r).2:=by
 unfold shard_Right_1 at h
 exact spec_by nB AF138 h (.bd fun x1 q1=>Cb0 (s_shard_answered (d+0) q1) <| Fn Fo [] none)
def st_slices_IndexFunc_api_Sess_api_Sess_L0 (a0:List api_Sess) (s3:Int):List AV × WH:=([(l_api_Sess a0),(.func 138 []),(.int .i64 (a0.length:Int)),(.int .i64 s3)],[])
def fin_slices_IndexFunc_api_Sess_api_Sess_L0 (a0:List api_Sess):Int ⊕ Unit→Ex × Fast × WH:=fun
 | .inl e=>(.ret,[(4,(.int .i64 e))],[])
 | .inr e=>((.exit 0),[],[])
abbrev rx_slices_IndexFunc_api_Sess_api_Sess_L0 (a0:List api_Sess):=roundX [0,1,7,8] (st_slices_IndexFunc_api_Sess_api_Sess_L0 a0) (fin_slices_IndexFunc_api_Sess_api_Sess_L0 a0)
def slices_IndexFunc_api_Sess_api_Sess_L0_s (a0:List api_Sess) (s3:Int):Option ((Int) ⊕ (Int ⊕ Unit)) :=
 cond (decide (s3 < (a0.length:Int))) ((getI a0 s3).bind fun (x4:api_Sess)=>(shard_Right_1 x4).bind fun (x5:Bool)=>cond x5 (some (.inr (.inl s3))) (some (.inl (IntKind.i64.wrap (s3+1))))) (some (.inr (.inr ())))
def slices_IndexFunc_api_Sess_api_Sess_L0 (a0:List api_Sess) (s3:Int):Option (Int ⊕ Unit):=loopX (slices_IndexFunc_api_Sess_api_Sess_L0_s a0) KK s3
theorem b_slices_IndexFunc_api_Sess_api_Sess_L0 (d:Nat) {a0:List api_Sess} {s3:Int} {r:(Int) ⊕ (Int ⊕ Unit)} (h:slices_IndexFunc_api_Sess_api_Sess_L0_s a0 s3=some r):RunX (bexec (wcalls atab (d+2)) KK 19 WB156_0) 0 (inL [0,1,7,8] (st_slices_IndexFunc_api_Sess_api_Sess_L0 a0 s3)) (rx_slices_IndexFunc_api_Sess_api_Sess_L0 a0 r):=by
 unfold slices_IndexFunc_api_Sess_api_Sess_L0_s at h
 exact run_by nB WB156_0_ok h (.br 9 (fun _=>.bd fun x4 q4=>Ix R_api_Sess 14 q4 <| .bd fun x5 q5=>Cb0 (s_shard_Right_1 (d+0) q5) <| .br 16 (fun _=>E0 [4]) fun _=>E1 [0,1,7,8] [none,none,none,none] [] [.slice none 4 0 0 true,.undef,.undef,.undef]) fun _=>E0 [])
theorem s_slices_IndexFunc_api_Sess_api_Sess_L0 (d:Nat) {a0:List api_Sess} {s3:Int} {r:Int ⊕ Unit} (h:slices_IndexFunc_api_Sess_api_Sess_L0 a0 s3=some r):RunX (bloop (bexec (wcalls atab (d+2)) KK 19 WB156_0) [0,1,7,8] KK) 0 (inL [0,1,7,8] (st_slices_IndexFunc_api_Sess_api_Sess_L0 a0 s3)) (fin_slices_IndexFunc_api_Sess_api_Sess_L0 a0 r) :=
 loop_of (st:=st_slices_IndexFunc_api_Sess_api_Sess_L0 a0) (fin:=fin_slices_IndexFunc_api_Sess_api_Sess_L0 a0) (step:=slices_IndexFunc_api_Sess_api_Sess_L0_s a0) (fun e=>by rcases e with e | e <;> (intro h; cases h)) (fun s x h=>b_slices_IndexFunc_api_Sess_api_Sess_L0 d h) KK s3 r h
def slices_IndexFunc_api_Sess_api_Sess (a0:List api_Sess):Option (Int) :=
 (slices_IndexFunc_api_Sess_api_Sess_L0 a0 0).bind fun (x6:Int ⊕ Unit)=>cond (isL x6) (some (getL x6)) (some (-1))
def out_slices_IndexFunc_api_Sess_api_Sess (a0:List api_Sess) (r:Int):AV × WH:=((.int .i64 r),[])
theorem s_slices_IndexFunc_api_Sess_api_Sess (d:Nat) {a0:List api_Sess} {r:Int} (h:slices_IndexFunc_api_Sess_api_Sess a0=some r):Spec (wcalls atab (d+3)) 156 [(l_api_Sess a0),(.func 138 [])] [] (out_slices_IndexFunc_api_Sess_api_Sess a0 r).1 (out_slices_IndexFunc_api_Sess_api_Sess a0 r).2:=by
 unfold slices_IndexFunc_api_Sess_api_Sess at h
 exact spec_by nB AF156 h (.bd fun x6 q6=>.ite (fun hb7=>Lp [none,none,none,none] [] [.slice none 4 0 0 true,.undef,.undef,.undef] (rwr (il hb7) (s_slices_IndexFunc_api_Sess_api_Sess_L0 (d+0) q6)) <| Fn Fo [] none) fun hb7=>Lp [none,none,none,none] [] [.slice none 4 0 0 true,.undef,.undef,.undef] (rwr (ir0 hb7) (s_slices_IndexFunc_api_Sess_api_Sess_L0 (d+0) q6)) <| Fn Fo [] none)
def slices_ContainsFunc_api_Sess_api_Sess (a0:List api_Sess):Option (Bool) :=
 (slices_IndexFunc_api_Sess_api_Sess a0).bind fun (x1:Int)=>some (decide (x1 ≥ 0))
def out_slices_ContainsFunc_api_Sess_api_Sess (a0:List api_Sess) (r:Bool):AV × WH:=((.bool r),[])
theorem s_slices_ContainsFunc_api_Sess_api_Sess (d:Nat) {a0:List api_Sess} {r:Bool} (h:slices_ContainsFunc_api_Sess_api_Sess a0=some r):Spec (wcalls atab (d+4)) 137 [(l_api_Sess a0),(.func 138 [])] [] (out_slices_ContainsFunc_api_Sess_api_Sess a0 r).1 (out_slices_ContainsFunc_api_Sess_api_Sess a0 r).2:=by
 unfold slices_ContainsFunc_api_Sess_api_Sess at h
 exact spec_by nB AF137 h (.bd fun x1 q1=>Cb [.slice none 4 0 0 true] (s_slices_IndexFunc_api_Sess_api_Sess (d+0) q1) <| Fn Fo [] none)
abbrev in_shard_Right_J0 (p_x:api_Image):Fast × WH:=([(1,(.ptr (some (0,0))))],[(some (.cells (e_api_Image p_x) false false))])
def fin_shard_Right_J0 (p_x:api_Image):Unit ⊕ Unit→Ex × Fast × WH:=fun
 | .inl e=>(.ret,[(2,(.bool false))],[])
 | .inr e=>(.normal,[(1,(.ptr (some (0,0))))],[(some (.cells (e_api_Image p_x) false false))])
def shard_Right_J0 (p_x:api_Image):Option (Unit ⊕ Unit) :=
 cond (decide (p_x.Shard < 0)) (some (.inl ())) (cond (decide (p_x.Shard ≥ 6)) (some (.inl ())) (cond (decide (p_x.Epoch < 1)) (some (.inl ())) (cond (decide (p_x.Epoch > 1099511627776)) (some (.inl ())) (some (.inr ())))))
theorem s_shard_Right_J0 (d:Nat) {p_x:api_Image} {r:Unit ⊕ Unit} (h:shard_Right_J0 p_x=some r):RunX (bexec (wcalls atab (d+0)) KK 44 WJ84_ba) 0 (in_shard_Right_J0 p_x) (fin_shard_Right_J0 p_x r):=by
 unfold shard_Right_J0 at h
 exact run_by nB WJ84_ba_ok h (.br 8 (fun _=>E0 [2]) fun _=>.br 13 (fun _=>E0 [2]) fun _=>.br 18 (fun _=>E0 [2]) fun _=>.br 22 (fun _=>E0 [2]) fun _=>E0 [1])
abbrev in_shard_Right_J1 (x3:shard_Shard) (p_x:api_Image):Fast × WH:=([(1,(.ptr (some (0,0)))),(3,(.ptr (some (1,0))))],[(some (.cells (e_api_Image p_x) false false)),(some (.cells (e_shard_Shard x3) false false))])
def fin_shard_Right_J1 (x3:shard_Shard) (p_x:api_Image):Bool→Ex × Fast × WH:=fun e=>(.normal,[(1,(.ptr (some (0,0)))),(4,(.bool e))],[(some (.cells (e_api_Image p_x) false false))])
def shard_Right_J1 (x3:shard_Shard) (p_x:api_Image):Option (Bool) :=
 (table_Table_Pairs x3).bind fun (x4:List api_Pair)=>(slices_Equal_api_Pair_api_Pair x4 p_x.Pairs).bind fun (x5:Bool)=>cond x5 ((session_Sessions_All x3).bind fun (x6:List api_Sess)=>(slices_Equal_api_Sess_api_Sess x6 p_x.Sess).bind fun (x7:Bool)=>some x7) (some false)
theorem s_shard_Right_J1 (d:Nat) {x3:shard_Shard} {p_x:api_Image} {r:Bool} (h:shard_Right_J1 x3 p_x=some r):RunX (bexec (wcalls atab (d+2)) KK 44 WJ84_bbba) 0 (in_shard_Right_J1 x3 p_x) (fin_shard_Right_J1 x3 p_x r):=by
 unfold shard_Right_J1 at h
 exact run_by nB WJ84_bbba_ok h (.bd fun x4 q4=>Cl [] Fo [] (s_table_Table_Pairs (d+0) q4) <| .er <| .ob (rfl:@Eq (Option AV) (some (l_api_Pair p_x.Pairs)) (some (l_api_Pair p_x.Pairs))) <| .bd fun x5 q5=>Cb [.slice none 2 0 0 true,.slice none 2 0 0 true] (s_slices_Equal_api_Pair_api_Pair (d+1) q5) <| .br 30 (fun _=>.bd fun x6 q6=>Cl [] Fo [] (s_session_Sessions_All (d+0) q6) <| .er <| .ob (rfl:@Eq (Option AV) (some (l_api_Sess p_x.Sess)) (some (l_api_Sess p_x.Sess))) <| .bd fun x7 q7=>Cb [.slice none 4 0 0 true,.slice none 4 0 0 true] (s_slices_Equal_api_Sess_api_Sess (d+1) q7) <| E0 [1,4]) fun _=>E0 [1,4])
def shard_Right (p_x:api_Image):Option (Bool) :=
 (shard_Right_J0 p_x).bind fun (x1:Unit ⊕ Unit)=>cond (isL x1) (some false) ((shard_Of p_x).bind fun (x3:shard_Shard)=>(shard_Right_J1 x3 p_x).bind fun (x8:Bool)=>cond x8 ((slices_ContainsFunc_api_Sess_api_Sess p_x.Sess).bind fun (x9:Bool)=>some (!x9)) (some false))
def out_shard_Right (p_x:api_Image) (r:Bool):AV × WH:=((.bool r),[])
theorem s_shard_Right (d:Nat) {p_x:api_Image} {r:Bool} (h:shard_Right p_x=some r):Spec (wcalls atab (d+9)) 84 [(.agg (e_api_Image p_x))] [] (out_shard_Right p_x r).1 (out_shard_Right p_x r).2:=by
 unfold shard_Right at h
 exact spec_by nB AF84 h (.sk <| .bd fun x1 q1=>.ite (fun hb2=>Jn [1] [none] [] [] (rwr (il hb2) (s_shard_Right_J0 (d+8) q1)) <| Fn Fo [] none) fun hb2=>Jn [1] [none] [] [] (rwr (ir0 hb2) (s_shard_Right_J0 (d+8) q1)) <| .bd fun x3 q3=>Cl [] Fo [.agg [.undef,.undef,.slice none 2 0 0 true,.slice none 4 0 0 true]] (s_shard_Of (d+0) q3) <| .z 3 [.slice none 2 0 0 true,.undef,.undef,.undef,.undef,.undef,.undef,.undef,.undef,.undef,.undef,.undef,.undef,.undef,.undef,.undef,.undef,.undef,.undef] <| .st none <| .bd fun x8 q8=>Jn [1,3] [none,none] [] [] (s_shard_Right_J1 (d+6) q8) <| .br 38 (fun _=>.bd fun x9 q9=>Cb [.slice none 4 0 0 true] (s_slices_ContainsFunc_api_Sess_api_Sess (d+4) q9) <| Fn Fo [] none) fun _=>Fn Fo [] none)
def codec_RightImage (p_x:api_Image):Option (Bool) :=
 (codec_zero p_x).bind fun (x1:Bool)=>cond x1 (some true) ((shard_Right p_x).bind fun (x2:Bool)=>some x2)
def out_codec_RightImage (p_x:api_Image) (r:Bool):AV × WH:=((.bool r),[])
theorem s_codec_RightImage (d:Nat) {p_x:api_Image} {r:Bool} (h:codec_RightImage p_x=some r):Spec (wcalls atab (d+10)) 25 [(.agg (e_api_Image p_x))] [] (out_codec_RightImage p_x r).1 (out_codec_RightImage p_x r).2:=by
 unfold codec_RightImage at h
 exact spec_by nB AF25 h (.bd fun x1 q1=>Cb [.agg [.undef,.undef,.slice none 2 0 0 true,.slice none 4 0 0 true]] (s_codec_zero (d+8) q1) <| .br 5 (fun _=>Fn Fo [] none) fun _=>.bd fun x2 q2=>Cb [.agg [.undef,.undef,.slice none 2 0 0 true,.slice none 4 0 0 true]] (s_shard_Right (d+0) q2) <| Fn Fo [] none)
def st_codec_LayImage_L0 (p_x:api_Image) (s5:List UInt8 × Int):List AV × WH:=([(.ptr (some (0,0))),(l_B s5.1),(l_api_Pair p_x.Pairs),(.int .i64 (p_x.Pairs.length:Int)),(.int .i64 s5.2)],[(some (.cells (e_api_Image p_x) false false))])
def fin_codec_LayImage_L0 (p_x:api_Image):(List UInt8)→Ex × Fast × WH:=fun e=>((.exit 0),[(3,(.ptr (some (0,0)))),(5,(l_B e))],[(some (.cells (e_api_Image p_x) false false))])
abbrev rx_codec_LayImage_L0 (p_x:api_Image):=roundX [3,5,24,25,26] (st_codec_LayImage_L0 p_x) (fin_codec_LayImage_L0 p_x)
def codec_LayImage_L0_s (p_x:api_Image) (s5:List UInt8 × Int):Option ((List UInt8 × Int) ⊕ ((List UInt8))) :=
 cond (decide (s5.2 < (p_x.Pairs.length:Int))) ((getI p_x.Pairs s5.2).bind fun (x6:api_Pair)=>(nums_Text s5.1 ([x6.Key,x6.Value])).bind fun (x7:List UInt8)=>some (.inl (x7,(IntKind.i64.wrap (s5.2+1))))) (some (.inr s5.1))
def codec_LayImage_L0 (p_x:api_Image) (s5:List UInt8 × Int):Option ((List UInt8)):=loopX (codec_LayImage_L0_s p_x) KK s5
theorem b_codec_LayImage_L0 (d:Nat) {p_x:api_Image} {s5:List UInt8 × Int} {r:(List UInt8 × Int) ⊕ ((List UInt8))} (h:codec_LayImage_L0_s p_x s5=some r):RunX (bexec (wcalls atab (d+3)) KK 63 WB20_0) 0 (inL [3,5,24,25,26] (st_codec_LayImage_L0 p_x s5)) (rx_codec_LayImage_L0 p_x r):=by
 unfold codec_LayImage_L0_s at h
 exact run_by nB WB20_0_ok h (.br 27 (fun _=>.bd fun x6 q6=>Ix R_api_Pair 28 q6 <| .st none <| .bd fun x7 q7=>Cl [] Fo [] (s_nums_Text (d+0) q7) <| E1 [3,5,24,25,26] [none,none,none,none,none] [] [.undef,.undef,.slice none 2 0 0 true,.undef,.undef]) fun _=>E0 [3,5])
theorem s_codec_LayImage_L0 (d:Nat) {p_x:api_Image} {s5:List UInt8 × Int} {r:(List UInt8)} (h:codec_LayImage_L0 p_x s5=some r):RunX (bloop (bexec (wcalls atab (d+3)) KK 63 WB20_0) [3,5,24,25,26] KK) 0 (inL [3,5,24,25,26] (st_codec_LayImage_L0 p_x s5)) (fin_codec_LayImage_L0 p_x r) :=
 loop_of (st:=st_codec_LayImage_L0 p_x) (fin:=fin_codec_LayImage_L0 p_x) (step:=codec_LayImage_L0_s p_x) (fun e=>by (intro h; cases h)) (fun s x h=>b_codec_LayImage_L0 d h) KK s5 r h
def st_codec_LayImage_L1 (p_x:api_Image) (s13:List UInt8 × Int):List AV × WH:=([(l_B s13.1),(l_api_Sess p_x.Sess),(.int .i64 (p_x.Sess.length:Int)),(.int .i64 s13.2)],[])
def fin_codec_LayImage_L1 (p_x:api_Image):(List UInt8)→Ex × Fast × WH:=fun e=>((.exit 2),[(5,(l_B e))],[])
abbrev rx_codec_LayImage_L1 (p_x:api_Image):=roundX [5,45,46,47] (st_codec_LayImage_L1 p_x) (fin_codec_LayImage_L1 p_x)
def codec_LayImage_L1_s (p_x:api_Image) (s13:List UInt8 × Int):Option ((List UInt8 × Int) ⊕ ((List UInt8))) :=
 cond (decide (s13.2 < (p_x.Sess.length:Int))) ((getI p_x.Sess s13.2).bind fun (x14:api_Sess)=>(nums_Put s13.1 ([x14.Client,x14.Seq])).bind fun (x15:List UInt8)=>(codec_LayAnswer x15 x14.Answer).bind fun (x16:List UInt8)=>some (.inl (x16,(IntKind.i64.wrap (s13.2+1))))) (some (.inr s13.1))
def codec_LayImage_L1 (p_x:api_Image) (s13:List UInt8 × Int):Option ((List UInt8)):=loopX (codec_LayImage_L1_s p_x) KK s13
theorem b_codec_LayImage_L1 (d:Nat) {p_x:api_Image} {s13:List UInt8 × Int} {r:(List UInt8 × Int) ⊕ ((List UInt8))} (h:codec_LayImage_L1_s p_x s13=some r):RunX (bexec (wcalls atab (d+4)) KK 63 WB20_1) 0 (inL [5,45,46,47] (st_codec_LayImage_L1 p_x s13)) (rx_codec_LayImage_L1 p_x r):=by
 unfold codec_LayImage_L1_s at h
 exact run_by nB WB20_1_ok h (.br 48 (fun _=>.bd fun x14 q14=>Ix R_api_Sess 49 q14 <| .st none <| .bd fun x15 q15=>Cl [] Fo [] (s_nums_Put (d+2) q15) <| .bd fun x16 q16=>Cl [] Fo [] (s_codec_LayAnswer (d+0) q16) <| E1 [5,45,46,47] [none,none,none,none] [] [.undef,.slice none 4 0 0 true,.undef,.undef]) fun _=>E0 [5])
theorem s_codec_LayImage_L1 (d:Nat) {p_x:api_Image} {s13:List UInt8 × Int} {r:(List UInt8)} (h:codec_LayImage_L1 p_x s13=some r):RunX (bloop (bexec (wcalls atab (d+4)) KK 63 WB20_1) [5,45,46,47] KK) 0 (inL [5,45,46,47] (st_codec_LayImage_L1 p_x s13)) (fin_codec_LayImage_L1 p_x r) :=
 loop_of (st:=st_codec_LayImage_L1 p_x) (fin:=fin_codec_LayImage_L1 p_x) (step:=codec_LayImage_L1_s p_x) (fun e=>by (intro h; cases h)) (fun s x h=>b_codec_LayImage_L1 d h) KK s13 r h
def codec_LayImage (p_b:List UInt8) (p_x:api_Image):Option (List UInt8) :=
 (codec_RightImage p_x).bind fun (x1:Bool)=>cond (!x1) (some []) ((nums_Put p_b ([p_x.Shard,p_x.Epoch,(p_x.Pairs.length:Int)])).bind fun (x2:List UInt8)=>(codec_LayImage_L0 p_x (x2,0)).bind fun (x8:(List UInt8))=>(nums_Put x8 ([(p_x.Sess.length:Int)])).bind fun (x9:List UInt8)=>(codec_LayImage_L1 p_x (x9,0)).bind fun (x17:(List UInt8))=>some x17)
def out_codec_LayImage (p_b:List UInt8) (p_x:api_Image) (r:List UInt8):AV × WH:=((l_B r),[])
theorem s_codec_LayImage (d:Nat) {p_b:List UInt8} {p_x:api_Image} {r:List UInt8} (h:codec_LayImage p_b p_x=some r):Spec (wcalls atab (d+11)) 20 [(l_B p_b),(.agg (e_api_Image p_x))] [] (out_codec_LayImage p_b p_x r).1 (out_codec_LayImage p_b p_x r).2:=by
 unfold codec_LayImage at h
 exact spec_by nB AF20 h (.bd fun x1 q1=>Cb [.agg [.undef,.undef,.slice none 2 0 0 true,.slice none 4 0 0 true]] (s_codec_RightImage (d+0) q1) <| .br 12 (fun _=>Fn Fo [] none) fun _=>.bd fun x2 q2=>Cl [] Fo [] (s_nums_Put (d+8) q2) <| .bd fun x8 q8=>Lp [none,none,none,none,none] [] [.undef,.undef,.slice none 2 0 0 true,.undef,.undef] (s_codec_LayImage_L0 (d+7) q8) <| .bd fun x9 q9=>Cl [] Fo [] (s_nums_Put (d+8) q9) <| .bd fun x17 q17=>Lp [none,none,none,none] [] [.undef,.slice none 4 0 0 true,.undef,.undef] (s_codec_LayImage_L1 (d+6) q17) <| Fn Fo [] none)
def oH_Few_2 (p_b:List UInt8) (n:Int):Option (List UInt8) :=
 cond (decide ((p_b.length:Int) > n)) ((slI p_b 0 n).bind fun (x1:List UInt8)=>gd (fitsB 1 x1.length) (some x1)) (gd (fitsB 1 p_b.length) (some p_b))
def out_oH_Few_2 (p_b:List UInt8) (n:Int) (r:List UInt8):AV × WH:=((.acc 0 0 1 r.length true),[(some (.cells (F_B r) false true))])
theorem s_oH_Few_2 (d:Nat) {p_b:List UInt8} {n:Int} {r:List UInt8} (h:oH_Few_2 p_b n=some r):Spec (wcalls atab (d+1)) 27 [(l_B p_b),(.int .i64 n)] [] (out_oH_Few_2 p_b n r).1 (out_oH_Few_2 p_b n r).2:=by
 unfold oH_Few_2 at h
 exact spec_by nB AF27 h (.br 8 (fun _=>.bd fun x1 q1=>Si R_B 11 q1 <| .gd fun q2=>Ap0 R_B 14 q2 <| Fn none [] none) fun _=>.gd fun q3=>Ap0 R_B 14 q3 <| Fn none [] none)
def st_oR_late_L0 (p_b:List UInt8) (s2:Int):List AV × WH:=([(l_B p_b),(.int .i64 s2)],[])
def fin_oR_late_L0 (p_b:List UInt8):Unit ⊕ Unit→Ex × Fast × WH:=fun
 | .inl e=>(.ret,[(4,(.int .i64 2))],[])
 | .inr e=>((.exit 0),[],[])
abbrev rx_oR_late_L0 (p_b:List UInt8):=roundX [0,5] (st_oR_late_L0 p_b) (fin_oR_late_L0 p_b)
def oR_late_L0_s (p_b:List UInt8) (s2:Int):Option ((Int) ⊕ (Unit ⊕ Unit)) :=
 cond (decide (s2 < (p_b.length:Int))) ((getI p_b s2).bind fun (x3:UInt8)=>cond (decide ((x3.toNat:Int) < 128)) (some (.inr (.inl ()))) (some (.inl (IntKind.i64.wrap (s2+1))))) (some (.inr (.inr ())))
def oR_late_L0 (p_b:List UInt8) (s2:Int):Option (Unit ⊕ Unit):=loopX (oR_late_L0_s p_b) KK s2
theorem b_oR_late_L0 (d:Nat) {p_b:List UInt8} {s2:Int} {r:(Int) ⊕ (Unit ⊕ Unit)} (h:oR_late_L0_s p_b s2=some r):RunX (bexec (wcalls atab (d+0)) KK 18 WB157_0) 0 (inL [0,5] (st_oR_late_L0 p_b s2)) (rx_oR_late_L0 p_b r):=by
 unfold oR_late_L0_s at h
 exact run_by nB WB157_0_ok h (.br 10 (fun _=>.bd fun x3 q3=>Ix R_B 15 q3 <| .br 17 (fun _=>E0 [4]) fun _=>E0 [0,5]) fun _=>E0 [])
theorem s_oR_late_L0 (d:Nat) {p_b:List UInt8} {s2:Int} {r:Unit ⊕ Unit} (h:oR_late_L0 p_b s2=some r):RunX (bloop (bexec (wcalls atab (d+0)) KK 18 WB157_0) [0,5] KK) 0 (inL [0,5] (st_oR_late_L0 p_b s2)) (fin_oR_late_L0 p_b r) :=
 loop_of (st:=st_oR_late_L0 p_b) (fin:=fin_oR_late_L0 p_b) (step:=oR_late_L0_s p_b) (fun e=>by rcases e with e | e <;> (intro h; cases h)) (fun s x h=>b_oR_late_L0 d h) KK s2 r h
def oR_late (p_b:List UInt8) (p_from:Int):Option (Int) :=
 (oR_late_L0 p_b p_from).bind fun (x4:Unit ⊕ Unit)=>cond (isL x4) (some 2) (some 3)
def out_oR_late (p_b:List UInt8) (p_from:Int) (r:Int):AV × WH:=((.int .i64 r),[])
theorem s_oR_late (d:Nat) {p_b:List UInt8} {p_from:Int} {r:Int} (h:oR_late p_b p_from=some r):Spec (wcalls atab (d+1)) 157 [(l_B p_b),(.int .i64 p_from)] [] (out_oR_late p_b p_from r).1 (out_oR_late p_b p_from r).2:=by
 unfold oR_late at h
 exact spec_by nB AF157 h (.bd fun x4 q4=>.ite (fun hb5=>Lp [none,none] [] [] (rwr (il hb5) (s_oR_late_L0 (d+0) q4)) <| Fn Fo [] none) fun hb5=>Lp [none,none] [] [] (rwr (ir0 hb5) (s_oR_late_L0 (d+0) q4)) <| Fn Fo [] none)
abbrev in_oR_Take_J0 (s11:Int × Int) (x12:UInt8) (p_b:List UInt8):Fast × WH:=([(0,(l_B p_b)),(5,(.int .i64 s11.1)),(6,(.int .i64 s11.2)),(7,(.int .i64 (IntKind.i64.wrap (x12.toNat:Int))))],[])
def fin_oR_Take_J0 (s11:Int × Int) (x12:UInt8) (p_b:List UInt8):Bool→Ex × Fast × WH:=fun e=>(.normal,[(0,(l_B p_b)),(5,(.int .i64 s11.1)),(6,(.int .i64 s11.2)),(7,(.int .i64 (IntKind.i64.wrap (x12.toNat:Int)))),(29,(.bool e))],[])
def oR_Take_J0 (s11:Int × Int) (x12:UInt8) (p_b:List UInt8):Option (Bool) :=
 cond (s11.2 == 9) (some true) (cond (s11.2 == 8) (some (decide ((Int.tmod (IntKind.i64.wrap (x12.toNat:Int)) 128) ≥ 64))) (some false))
theorem s_oR_Take_J0 (d:Nat) {s11:Int × Int} {x12:UInt8} {p_b:List UInt8} {r:Bool} (h:oR_Take_J0 s11 x12 p_b=some r):RunX (bexec (wcalls atab (d+0)) KK 56 WJ140_bbabklbakbaa) 0 (in_oR_Take_J0 s11 x12 p_b) (fin_oR_Take_J0 s11 x12 p_b r):=by
 unfold oR_Take_J0 at h
 exact run_by nB WJ140_bbabklbakbaa_ok h (.br 21 (fun _=>E0 [0,5,6,7,29]) fun _=>.br 24 (fun _=>E0 [0,5,6,7,29]) fun _=>E0 [0,5,6,7,29])
abbrev in_oR_Take_J1 (s11:Int × Int) (x12:UInt8) (p_b:List UInt8):Fast × WH:=([(0,(l_B p_b)),(5,(.int .i64 s11.1)),(6,(.int .i64 s11.2)),(7,(.int .i64 (IntKind.i64.wrap (x12.toNat:Int))))],[])
def fin_oR_Take_J1 (s11:Int × Int) (x12:UInt8) (p_b:List UInt8):Int ⊕ Unit→Ex × Fast × WH:=fun
 | .inl e=>(.ret,[(2,(.int .i64 0)),(3,(.slice none 1 0 0 true)),(4,(.int .i64 e))],[])
 | .inr e=>(.normal,[(0,(l_B p_b)),(5,(.int .i64 s11.1)),(6,(.int .i64 s11.2)),(7,(.int .i64 (IntKind.i64.wrap (x12.toNat:Int))))],[])
def oR_Take_J1 (s11:Int × Int) (x12:UInt8) (p_b:List UInt8):Option (Int ⊕ Unit) :=
 (oR_Take_J0 s11 x12 p_b).bind fun (x13:Bool)=>cond x13 ((oR_late p_b s11.2).bind fun (x14:Int)=>some (.inl x14)) (some (.inr ()))
theorem s_oR_Take_J1 (d:Nat) {s11:Int × Int} {x12:UInt8} {p_b:List UInt8} {r:Int ⊕ Unit} (h:oR_Take_J1 s11 x12 p_b=some r):RunX (bexec (wcalls atab (d+1)) KK 56 WJ140_bbabklbakba) 0 (in_oR_Take_J1 s11 x12 p_b) (fin_oR_Take_J1 s11 x12 p_b r):=by
 unfold oR_Take_J1 at h
 exact run_by nB WJ140_bbabklbakba_ok h (.bd fun x13 q13=>Jn [0,5,6,7] [none,none,none,none] [] [] (s_oR_Take_J0 (d+1) q13) <| .br 29 (fun _=>.bd fun x14 q14=>Cb0 (s_oR_late (d+0) q14) <| E0 [2,3,4]) fun _=>E0 [0,5,6,7])
abbrev in_oR_Take_J2 (x12:UInt8) (s11:Int × Int) (p_b:List UInt8) (x17:Int):Fast × WH:=([(0,(l_B p_b)),(5,(.int .i64 (IntKind.i64.wrap (s11.1+x17)))),(6,(.int .i64 s11.2)),(7,(.int .i64 (IntKind.i64.wrap (x12.toNat:Int))))],[])
def fin_oR_Take_J2 (x12:UInt8) (s11:Int × Int) (p_b:List UInt8) (x17:Int):Unit ⊕ Unit→Ex × Fast × WH:=fun
 | .inl e=>(.ret,[(2,(.int .i64 0)),(3,(.slice none 1 0 0 true)),(4,(.int .i64 2))],[])
 | .inr e=>(.normal,[(0,(l_B p_b)),(5,(.int .i64 (IntKind.i64.wrap (s11.1+x17)))),(6,(.int .i64 s11.2))],[])
def oR_Take_J2 (x12:UInt8) (s11:Int × Int) (p_b:List UInt8) (x17:Int):Option (Unit ⊕ Unit) :=
 cond ((IntKind.i64.wrap (x12.toNat:Int)) == 0) (cond (decide (s11.2 > 0)) (some (.inl ())) (some (.inr ()))) (some (.inr ()))
theorem s_oR_Take_J2 (d:Nat) {x12:UInt8} {s11:Int × Int} {p_b:List UInt8} {x17:Int} {r:Unit ⊕ Unit} (h:oR_Take_J2 x12 s11 p_b x17=some r):RunX (bexec (wcalls atab (d+0)) KK 56 WJ140_bbabklbakbbbba) 0 (in_oR_Take_J2 x12 s11 p_b x17) (fin_oR_Take_J2 x12 s11 p_b x17 r):=by
 unfold oR_Take_J2 at h
 exact run_by nB WJ140_bbabklbakbbbba_ok h (.br 45 (fun _=>.br 48 (fun _=>E0 [2,3,4]) fun _=>E0 [0,5,6]) fun _=>E0 [0,5,6])
def st_oR_Take_L3 (p_b:List UInt8) (s11:Int × Int):List AV × WH:=([(l_B p_b),(.int .i64 s11.1),(.int .i64 s11.2)],[])
def fin_oR_Take_L3 (p_b:List UInt8):(Int × Int × List UInt8) ⊕ Unit→Ex × Fast × WH:=fun
 | .inl e=>(.ret,[(2,(.int .i64 e.1)),(3,(.acc 0 0 1 e.2.2.length true)),(4,(.int .i64 e.2.1))],[(some (.cells (F_B e.2.2) false true))])
 | .inr e=>((.exit 0),[],[])
abbrev rx_oR_Take_L3 (p_b:List UInt8):=roundX [0,5,6] (st_oR_Take_L3 p_b) (fin_oR_Take_L3 p_b)
def oR_Take_L3_s (p_b:List UInt8) (s11:Int × Int):Option ((Int × Int) ⊕ ((Int × Int × List UInt8) ⊕ Unit)) :=
 cond (decide (s11.2 < (p_b.length:Int))) ((getI p_b s11.2).bind fun (x12:UInt8)=>(oR_Take_J1 s11 x12 p_b).bind fun (x15:Int ⊕ Unit)=>cond (isL x15) (some (.inr (.inl (0,(getL x15),[])))) ((shlI .i64 (Int.tmod (IntKind.i64.wrap (x12.toNat:Int)) 128) (IntKind.u64.wrap (IntKind.i64.wrap (7 * s11.2)))).bind fun (x17:Int)=>cond (decide ((IntKind.i64.wrap (x12.toNat:Int)) ≥ 128)) (some (.inl ((IntKind.i64.wrap (s11.1+x17)),(IntKind.i64.wrap (s11.2+1))))) ((oR_Take_J2 x12 s11 p_b x17).bind fun (x18:Unit ⊕ Unit)=>cond (isL x18) (some (.inr (.inl (0,2,[])))) ((slI p_b (IntKind.i64.wrap (s11.2+1)) p_b.length).bind fun (x20:List UInt8)=>gd (fitsB 1 x20.length) (some (.inr (.inl ((IntKind.i64.wrap (s11.1+x17)),0,x20)))))))) (some (.inr (.inr ())))
def oR_Take_L3 (p_b:List UInt8) (s11:Int × Int):Option ((Int × Int × List UInt8) ⊕ Unit):=loopX (oR_Take_L3_s p_b) KK s11
theorem b_oR_Take_L3 (d:Nat) {p_b:List UInt8} {s11:Int × Int} {r:(Int × Int) ⊕ ((Int × Int × List UInt8) ⊕ Unit)} (h:oR_Take_L3_s p_b s11=some r):RunX (bexec (wcalls atab (d+1)) KK 56 WB140_0) 0 (inL [0,5,6] (st_oR_Take_L3 p_b s11)) (rx_oR_Take_L3 p_b r):=by
 unfold oR_Take_L3_s at h
 exact run_by nB WB140_0_ok h (.br 11 (fun _=>.bd fun x12 q12=>Ix R_B 16 q12 <| .bd fun x15 q15=>.ite (fun hb16=>Jn [0,5,6,7] [none,none,none,none] [] [] (rwr (il hb16) (s_oR_Take_J1 (d+0) q15)) <| .leafq (.en [2,3,4] [none,(some true),none] [] []) _ (fun r=>(.ret=(rx_oR_Take_L3 p_b r).1∧[(2,(.int .i64 0)),(3,(.acc 0 0 1 0 true)),(4,(.int .i64 (getL x15)))]=(rx_oR_Take_L3 p_b r).2.1∧[(some (.cells (F_B []) false true))]=(rx_oR_Take_L3 p_b r).2.2)) (by show _∧_∧_; refine ⟨rfl, ?_, ?_⟩ <;> first | rfl | (simp only [rx_oR_Take_L3,roundX,zipKeep,fin_oR_Take_L3,st_oR_Take_L3,List.length_set,List.length_append,List.length_replicate,List.length_cons,List.length_nil,Nat.add_zero,Nat.zero_add]; done) | simp [rx_oR_Take_L3,roundX,zipKeep,fin_oR_Take_L3,st_oR_Take_L3,l_B])) fun hb16=>Jn [0,5,6,7] [none,none,none,none] [] [] (rwr (ir0 hb16) (s_oR_Take_J1 (d+0) q15)) <| .bd fun x17 q17=>.v 39 (.int .i64 x17) <| .ob (wP_shl q17:aBin .shl (.int .i64 (Int.tmod (IntKind.i64.wrap (x12.toNat:Int)) 128)) (.int .u64 (IntKind.u64.wrap (IntKind.i64.wrap (7 * s11.2))))=some (.int .i64 x17)) <| .br 42 (fun _=>E0 [0,5,6]) fun _=>.bd fun x18 q18=>.ite (fun hb19=>Jn [0,5,6,7] [none,none,none,none] [] [] (rwr (il hb19) (s_oR_Take_J2 (d+1) q18)) <| .leafq (.en [2,3,4] [none,(some true),none] [] []) _ (fun r=>(.ret=(rx_oR_Take_L3 p_b r).1∧[(2,(.int .i64 0)),(3,(.acc 0 0 1 0 true)),(4,(.int .i64 2))]=(rx_oR_Take_L3 p_b r).2.1∧[(some (.cells (F_B []) false true))]=(rx_oR_Take_L3 p_b r).2.2)) (by show _∧_∧_; refine ⟨rfl, ?_, ?_⟩ <;> first | rfl | (simp only [rx_oR_Take_L3,roundX,zipKeep,fin_oR_Take_L3,st_oR_Take_L3,List.length_set,List.length_append,List.length_replicate,List.length_cons,List.length_nil,Nat.add_zero,Nat.zero_add]; done) | simp [rx_oR_Take_L3,roundX,zipKeep,fin_oR_Take_L3,st_oR_Take_L3,l_B])) fun hb19=>Jn [0,5,6,7] [none,none,none,none] [] [] (rwr (ir0 hb19) (s_oR_Take_J2 (d+1) q18)) <| .bd fun x20 q20=>Sl R_B 54 q20 <| .gd fun q21=>Ap0 R_B 55 q21 <| E1 [2,3,4] [none,Tw,none] [] []) fun _=>E0 [])
theorem s_oR_Take_L3 (d:Nat) {p_b:List UInt8} {s11:Int × Int} {r:(Int × Int × List UInt8) ⊕ Unit} (h:oR_Take_L3 p_b s11=some r):RunX (bloop (bexec (wcalls atab (d+1)) KK 56 WB140_0) [0,5,6] KK) 0 (inL [0,5,6] (st_oR_Take_L3 p_b s11)) (fin_oR_Take_L3 p_b r) :=
 loop_of (st:=st_oR_Take_L3 p_b) (fin:=fin_oR_Take_L3 p_b) (step:=oR_Take_L3_s p_b) (fun e=>by rcases e with e | e <;> (intro h; cases h)) (fun s x h=>b_oR_Take_L3 d h) KK s11 r h
def oR_Take (p_b:List UInt8):Option (Int × List UInt8 × Int) :=
 (oR_Take_L3 p_b (0,0)).bind fun (x22:(Int × Int × List UInt8) ⊕ Unit)=>cond (isL x22) (some ((getL x22).1,(getL x22).2.2,(getL x22).2.1)) (some (0,[],3))
def out_oR_Take (p_b:List UInt8) (r:Int × List UInt8 × Int):AV × WH:=((.tuple [(.int .i64 r.1),(l_B r.2.1),(.int .i64 r.2.2)]),[])
theorem s_oR_Take (d:Nat) {p_b:List UInt8} {r:Int × List UInt8 × Int} (h:oR_Take p_b=some r):Spec (wcalls atab (d+2)) 140 [(l_B p_b)] [] (out_oR_Take p_b r).1 (out_oR_Take p_b r).2:=by
 unfold oR_Take at h
 exact spec_by nB AF140 h (.bd fun x22 q22=>.ite (fun hb23=>Lp [none,none,none] [] [] (rwr (il hb23) (s_oR_Take_L3 (d+0) q22)) <| Fn Fo [] none) fun hb23=>Lp [none,none,none] [] [] (rwr (ir0 hb23) (s_oR_Take_L3 (d+0) q22)) <| Fn Fo [] none)
def oR_Reader_Int (p_r:oR_Reader):Option (Int × oR_Reader) :=
 cond (p_r.E != 0) (some (0,p_r)) ((oR_Take p_r.B).bind fun (x1:Int × List UInt8 × Int)=>some (x1.1,(⟨x1.2.1,x1.2.2⟩:oR_Reader)))
def out_oR_Reader_Int (p_r:oR_Reader) (r:Int × oR_Reader):AV × WH:=((.int .i64 r.1),[(some (.cells (e_oR_Reader r.2) false false))])
theorem s_oR_Reader_Int (d:Nat) {p_r:oR_Reader} {r:Int × oR_Reader} (h:oR_Reader_Int p_r=some r):Spec (wcalls atab (d+3)) 86 [(.ptr (some (0,0)))] [(some (.cells (e_oR_Reader p_r) false false))] (out_oR_Reader_Int p_r r).1 (out_oR_Reader_Int p_r r).2:=by
 unfold oR_Reader_Int at h
 exact spec_by nB AF86 h (.br 10 (fun _=>Fn Fo [] none) fun _=>.bd fun x1 q1=>Cl [] Fo [] (s_oR_Take (d+0) q1) <| .st none <| .st none <| Fn Fo [] none)
def oR_TakeText (p_b:List UInt8):Option (List UInt8 × List UInt8 × Int) :=
 (oR_Take p_b).bind fun (x1:Int × List UInt8 × Int)=>cond (x1.2.2 != 0) (some (([]:List UInt8),[],x1.2.2)) (cond (decide (x1.1 > (x1.2.1.length:Int))) (some (([]:List UInt8),[],3)) ((slI x1.2.1 x1.1 x1.2.1.length).bind fun (x2:List UInt8)=>gd (fitsB 1 x2.length) ((slI x1.2.1 0 x1.1).bind fun (x4:List UInt8)=>some (x4,x2,0))))
def out_oR_TakeText (p_b:List UInt8) (r:List UInt8 × List UInt8 × Int):AV × WH:=((.tuple [(.str r.1),(l_B r.2.1),(.int .i64 r.2.2)]),[])
theorem s_oR_TakeText (d:Nat) {p_b:List UInt8} {r:List UInt8 × List UInt8 × Int} (h:oR_TakeText p_b=some r):Spec (wcalls atab (d+3)) 141 [(l_B p_b)] [] (out_oR_TakeText p_b r).1 (out_oR_TakeText p_b r).2:=by
 unfold oR_TakeText at h
 exact spec_by nB AF141 h (.bd fun x1 q1=>Cl [] Fo [] (s_oR_Take (d+0) q1) <| .br 15 (fun _=>Fn Fo [] none) fun _=>.br 20 (fun _=>Fn Fo [] none) fun _=>.bd fun x2 q2=>Sl R_B 28 q2 <| .gd fun q3=>Ap0 R_B 29 q3 <| .bd fun x4 q4=>Si R_B 23 q4 <| .v 24 (.str x4) <| .ob (by rw [show F_B x4=(x4).map byteC from rfl,toBytes_map]; rfl:(toBytes (F_B x4)).map AV.str=some (.str x4)) <| Fn Fo [] none)
def oR_Reader_Text (p_r:oR_Reader):Option (List UInt8 × oR_Reader) :=
 cond (p_r.E != 0) (some (([]:List UInt8),p_r)) ((oR_TakeText p_r.B).bind fun (x1:List UInt8 × List UInt8 × Int)=>some (x1.1,(⟨x1.2.1,x1.2.2⟩:oR_Reader)))
def out_oR_Reader_Text (p_r:oR_Reader) (r:List UInt8 × oR_Reader):AV × WH:=((.str r.1),[(some (.cells (e_oR_Reader r.2) false false))])
theorem s_oR_Reader_Text (d:Nat) {p_r:oR_Reader} {r:List UInt8 × oR_Reader} (h:oR_Reader_Text p_r=some r):Spec (wcalls atab (d+4)) 87 [(.ptr (some (0,0)))] [(some (.cells (e_oR_Reader p_r) false false))] (out_oR_Reader_Text p_r r).1 (out_oR_Reader_Text p_r r).2:=by
 unfold oR_Reader_Text at h
 exact spec_by nB AF87 h (.br 10 (fun _=>Fn Fo [] none) fun _=>.bd fun x1 q1=>Cl [] Fo [] (s_oR_TakeText (d+0) q1) <| .st none <| .st none <| Fn Fo [] none)
def oR_Reader_Fail (p_e:Int) (p_r:oR_Reader):Option (oR_Reader) :=
 cond (p_r.E == 0) (some (⟨p_r.B,p_e⟩:oR_Reader)) (some p_r)
def out_oR_Reader_Fail (p_e:Int) (p_r:oR_Reader) (r:oR_Reader):AV × WH:=((.tuple []),[(some (.cells (e_oR_Reader r) false false))])
theorem s_oR_Reader_Fail (d:Nat) {p_e:Int} {p_r:oR_Reader} {r:oR_Reader} (h:oR_Reader_Fail p_e p_r=some r):Spec (wcalls atab (d+1)) 88 [(.ptr (some (0,0))),(.int .i64 p_e)] [(some (.cells (e_oR_Reader p_r) false false))] (out_oR_Reader_Fail p_e p_r r).1 (out_oR_Reader_Fail p_e p_r r).2:=by
 unfold oR_Reader_Fail at h
 exact spec_by nB AF88 h (.br 8 (fun _=>.st none <| Fn Fo [] none) fun _=>Fn Fo [] none)
def oR_Reader_Req (p_r:oR_Reader):Option (api_Req × oR_Reader) :=
 (oR_Reader_Int p_r).bind fun (x1:Int × oR_Reader)=>(oR_Reader_Int x1.2).bind fun (x2:Int × oR_Reader)=>(oR_Reader_Int x2.2).bind fun (x3:Int × oR_Reader)=>(oR_Reader_Text x3.2).bind fun (x4:List UInt8 × oR_Reader)=>(oR_Reader_Text x4.2).bind fun (x5:List UInt8 × oR_Reader)=>(oR_Reader_Text x5.2).bind fun (x6:List UInt8 × oR_Reader)=>(oR_MayReq (⟨x1.1,x2.1,(⟨x3.1,x4.1,x5.1,x6.1⟩:api_Op)⟩:api_Req)).bind fun (x7:Bool)=>cond (!x7) ((oR_Reader_Fail 2 x6.2).bind fun (x8:oR_Reader)=>some ((⟨x1.1,x2.1,(⟨x3.1,x4.1,x5.1,x6.1⟩:api_Op)⟩:api_Req),x8)) (some ((⟨x1.1,x2.1,(⟨x3.1,x4.1,x5.1,x6.1⟩:api_Op)⟩:api_Req),x6.2))
def out_oR_Reader_Req (p_r:oR_Reader) (r:api_Req × oR_Reader):AV × WH:=((.agg (e_api_Req r.1)),[(some (.cells (e_oR_Reader r.2) false false))])
theorem s_oR_Reader_Req (d:Nat) {p_r:oR_Reader} {r:api_Req × oR_Reader} (h:oR_Reader_Req p_r=some r):Spec (wcalls atab (d+5)) 28 [(.ptr (some (0,0)))] [(some (.cells (e_oR_Reader p_r) false false))] (out_oR_Reader_Req p_r r).1 (out_oR_Reader_Req p_r r).2:=by
 unfold oR_Reader_Req at h
 exact spec_by nB AF28 h (.bd fun x1 q1=>Cl [] Fo [] (s_oR_Reader_Int (d+1) q1) <| .bd fun x2 q2=>Cl [] Fo [] (s_oR_Reader_Int (d+1) q2) <| .st none <| .bd fun x3 q3=>Cl [] Fo [] (s_oR_Reader_Int (d+1) q3) <| .st none <| .bd fun x4 q4=>Cl [] Fo [] (s_oR_Reader_Text (d+0) q4) <| .st none <| .bd fun x5 q5=>Cl [] Fo [] (s_oR_Reader_Text (d+0) q5) <| .st none <| .bd fun x6 q6=>Cl [] Fo [] (s_oR_Reader_Text (d+0) q6) <| .st none <| .bd fun x7 q7=>Cb0 (s_oR_MayReq (d+1) q7) <| .br 27 (fun _=>.bd fun x8 q8=>Cl [] Fo [] (s_oR_Reader_Fail (d+3) q8) <| .st none <| Fn Fo [] none) fun _=>.st none <| Fn Fo [] none)
def nums_take_1 (c:UInt8):Option (Bool) :=
 some (((u8w (andI .u8 (c.toNat:Int) 128)).toNat:Int) == 0)
def out_nums_take_1 (c:UInt8) (r:Bool):AV × WH:=((.bool r),[])
theorem s_nums_take_1 (d:Nat) {c:UInt8} {r:Bool} (h:nums_take_1 c=some r):Spec (wcalls atab (d+1)) 159 [(.int .u8 (c.toNat:Int))] [] (out_nums_take_1 c r).1 (out_nums_take_1 c r).2:=by
 unfold nums_take_1 at h
 exact spec_by nB AF159 h (.v 4 (.int .u8 ((u8w (andI .u8 (c.toNat:Int) 128)).toNat:Int)) <| .ob (u8_of rfl:@Eq (Option AV) (some (.int .u8 (andI .u8 (c.toNat:Int) 128))) (some (.int .u8 ((u8w (andI .u8 (c.toNat:Int) 128)).toNat:Int)))) <| Fn Fo [] none)
def st_slices_IndexFunc_byte_byte_L0 (a0:List UInt8) (s3:Int):List AV × WH:=([(l_B a0),(.func 159 []),(.int .i64 (a0.length:Int)),(.int .i64 s3)],[])
def fin_slices_IndexFunc_byte_byte_L0 (a0:List UInt8):Int ⊕ Unit→Ex × Fast × WH:=fun
 | .inl e=>(.ret,[(4,(.int .i64 e))],[])
 | .inr e=>((.exit 0),[],[])
abbrev rx_slices_IndexFunc_byte_byte_L0 (a0:List UInt8):=roundX [0,1,7,8] (st_slices_IndexFunc_byte_byte_L0 a0) (fin_slices_IndexFunc_byte_byte_L0 a0)
def slices_IndexFunc_byte_byte_L0_s (a0:List UInt8) (s3:Int):Option ((Int) ⊕ (Int ⊕ Unit)) :=
 cond (decide (s3 < (a0.length:Int))) ((getI a0 s3).bind fun (x4:UInt8)=>(nums_take_1 x4).bind fun (x5:Bool)=>cond x5 (some (.inr (.inl s3))) (some (.inl (IntKind.i64.wrap (s3+1))))) (some (.inr (.inr ())))
def slices_IndexFunc_byte_byte_L0 (a0:List UInt8) (s3:Int):Option (Int ⊕ Unit):=loopX (slices_IndexFunc_byte_byte_L0_s a0) KK s3
theorem b_slices_IndexFunc_byte_byte_L0 (d:Nat) {a0:List UInt8} {s3:Int} {r:(Int) ⊕ (Int ⊕ Unit)} (h:slices_IndexFunc_byte_byte_L0_s a0 s3=some r):RunX (bexec (wcalls atab (d+1)) KK 19 WB158_0) 0 (inL [0,1,7,8] (st_slices_IndexFunc_byte_byte_L0 a0 s3)) (rx_slices_IndexFunc_byte_byte_L0 a0 r):=by
 unfold slices_IndexFunc_byte_byte_L0_s at h
 exact run_by nB WB158_0_ok h (.br 9 (fun _=>.bd fun x4 q4=>Ix R_B 14 q4 <| .bd fun x5 q5=>Cb0 (s_nums_take_1 (d+0) q5) <| .br 16 (fun _=>E0 [4]) fun _=>E0 [0,1,7,8]) fun _=>E0 [])
theorem s_slices_IndexFunc_byte_byte_L0 (d:Nat) {a0:List UInt8} {s3:Int} {r:Int ⊕ Unit} (h:slices_IndexFunc_byte_byte_L0 a0 s3=some r):RunX (bloop (bexec (wcalls atab (d+1)) KK 19 WB158_0) [0,1,7,8] KK) 0 (inL [0,1,7,8] (st_slices_IndexFunc_byte_byte_L0 a0 s3)) (fin_slices_IndexFunc_byte_byte_L0 a0 r) :=
 loop_of (st:=st_slices_IndexFunc_byte_byte_L0 a0) (fin:=fin_slices_IndexFunc_byte_byte_L0 a0) (step:=slices_IndexFunc_byte_byte_L0_s a0) (fun e=>by rcases e with e | e <;> (intro h; cases h)) (fun s x h=>b_slices_IndexFunc_byte_byte_L0 d h) KK s3 r h
def slices_IndexFunc_byte_byte (a0:List UInt8):Option (Int) :=
 (slices_IndexFunc_byte_byte_L0 a0 0).bind fun (x6:Int ⊕ Unit)=>cond (isL x6) (some (getL x6)) (some (-1))
def out_slices_IndexFunc_byte_byte (a0:List UInt8) (r:Int):AV × WH:=((.int .i64 r),[])
theorem s_slices_IndexFunc_byte_byte (d:Nat) {a0:List UInt8} {r:Int} (h:slices_IndexFunc_byte_byte a0=some r):Spec (wcalls atab (d+2)) 158 [(l_B a0),(.func 159 [])] [] (out_slices_IndexFunc_byte_byte a0 r).1 (out_slices_IndexFunc_byte_byte a0 r).2:=by
 unfold slices_IndexFunc_byte_byte at h
 exact spec_by nB AF158 h (.bd fun x6 q6=>.ite (fun hb7=>Lp [none,none,none,none] [] [] (rwr (il hb7) (s_slices_IndexFunc_byte_byte_L0 (d+0) q6)) <| Fn Fo [] none) fun hb7=>Lp [none,none,none,none] [] [] (rwr (ir0 hb7) (s_slices_IndexFunc_byte_byte_L0 (d+0) q6)) <| Fn Fo [] none)
abbrev in_nums_take_J0 (x1:Int) (p_b:List UInt8):Fast × WH:=([(0,(l_B p_b)),(2,(.int .i64 0)),(5,(.int .i64 x1))],[])
def fin_nums_take_J0 (x1:Int) (p_b:List UInt8):Unit ⊕ Unit→Ex × Fast × WH:=fun
 | .inl e=>(.ret,[(2,(.int .i64 0)),(3,(.int .i64 0)),(4,(.int .i64 2))],[])
 | .inr e=>(.normal,[(0,(l_B p_b)),(2,(.int .i64 0)),(5,(.int .i64 x1))],[])
def nums_take_J0 (x1:Int) (p_b:List UInt8):Option (Unit ⊕ Unit) :=
 cond (decide (x1 ≥ 9)) (some (.inl ())) (cond (decide (x1 > 0)) ((getI p_b x1).bind fun (x2:UInt8)=>cond ((x2.toNat:Int) == 0) (some (.inl ())) (some (.inr ()))) (some (.inr ())))
theorem s_nums_take_J0 (d:Nat) {x1:Int} {p_b:List UInt8} {r:Unit ⊕ Unit} (h:nums_take_J0 x1 p_b=some r):RunX (bexec (wcalls atab (d+0)) KK 47 WJ142_bbba) 0 (in_nums_take_J0 x1 p_b) (fin_nums_take_J0 x1 p_b r):=by
 unfold nums_take_J0 at h
 exact run_by nB WJ142_bbba_ok h (.br 13 (fun _=>E0 [2,3,4]) fun _=>.br 16 (fun _=>.bd fun x2 q2=>Ix R_B 19 q2 <| .br 23 (fun _=>E0 [2,3,4]) fun _=>E0 [0,2,5]) fun _=>E0 [0,2,5])
def st_nums_take_L1 (p_b:List UInt8) (x1:Int) (s6:Int × Int):List AV × WH:=([(l_B p_b),(.int .i64 s6.1),(.int .i64 x1),(.int .i64 s6.2)],[])
def fin_nums_take_L1 (p_b:List UInt8) (x1:Int):Int→Ex × Fast × WH:=fun e=>((.exit 0),[(2,(.int .i64 e)),(5,(.int .i64 x1))],[])
abbrev rx_nums_take_L1 (p_b:List UInt8) (x1:Int):=roundX [0,2,5,6] (st_nums_take_L1 p_b x1) (fin_nums_take_L1 p_b x1)
def nums_take_L1_s (p_b:List UInt8) (x1:Int) (s6:Int × Int):Option ((Int × Int) ⊕ (Int)) :=
 cond (decide (s6.2 ≥ 0)) ((getI p_b s6.2).bind fun (x7:UInt8)=>some (.inl ((orI .i64 (shlV .i64 s6.1 7) (IntKind.i64.wrap ((u8w (andI .u8 (x7.toNat:Int) 127)).toNat:Int))),(IntKind.i64.wrap (s6.2 - 1))))) (some (.inr s6.1))
def nums_take_L1 (p_b:List UInt8) (x1:Int) (s6:Int × Int):Option (Int):=loopX (nums_take_L1_s p_b x1) KK s6
theorem b_nums_take_L1 (d:Nat) {p_b:List UInt8} {x1:Int} {s6:Int × Int} {r:(Int × Int) ⊕ (Int)} (h:nums_take_L1_s p_b x1 s6=some r):RunX (bexec (wcalls atab (d+0)) KK 47 WB142_0) 0 (inL [0,2,5,6] (st_nums_take_L1 p_b x1 s6)) (rx_nums_take_L1 p_b x1 r):=by
 unfold nums_take_L1_s at h
 exact run_by nB WB142_0_ok h (.br 26 (fun _=>.bd fun x7 q7=>Ix R_B 33 q7 <| .v 35 (.int .u8 ((u8w (andI .u8 (x7.toNat:Int) 127)).toNat:Int)) <| .ob (u8_of rfl:@Eq (Option AV) (some (.int .u8 (andI .u8 (x7.toNat:Int) 127))) (some (.int .u8 ((u8w (andI .u8 (x7.toNat:Int) 127)).toNat:Int)))) <| E0 [0,2,5,6]) fun _=>E0 [2,5])
theorem s_nums_take_L1 (d:Nat) {p_b:List UInt8} {x1:Int} {s6:Int × Int} {r:Int} (h:nums_take_L1 p_b x1 s6=some r):RunX (bloop (bexec (wcalls atab (d+0)) KK 47 WB142_0) [0,2,5,6] KK) 0 (inL [0,2,5,6] (st_nums_take_L1 p_b x1 s6)) (fin_nums_take_L1 p_b x1 r) :=
 loop_of (st:=st_nums_take_L1 p_b x1) (fin:=fin_nums_take_L1 p_b x1) (step:=nums_take_L1_s p_b x1) (fun e=>by (intro h; cases h)) (fun s x h=>b_nums_take_L1 d h) KK s6 r h
abbrev in_nums_take_J2 (x8:Int) (x1:Int):Fast × WH:=([(2,(.int .i64 x8)),(5,(.int .i64 x1))],[])
def fin_nums_take_J2 (x8:Int) (x1:Int):Unit ⊕ Unit→Ex × Fast × WH:=fun
 | .inl e=>(.ret,[(2,(.int .i64 0)),(3,(.int .i64 0)),(4,(.int .i64 2))],[])
 | .inr e=>(.normal,[(2,(.int .i64 x8)),(5,(.int .i64 x1))],[])
def nums_take_J2 (x8:Int) (x1:Int):Option (Unit ⊕ Unit) :=
 cond (decide (x8 < 0)) (some (.inl ())) (cond (decide (x8 > 4611686018427387903)) (some (.inl ())) (some (.inr ())))
theorem s_nums_take_J2 (d:Nat) {x8:Int} {x1:Int} {r:Unit ⊕ Unit} (h:nums_take_J2 x8 x1=some r):RunX (bexec (wcalls atab (d+0)) KK 47 WJ142_bbbbba) 0 (in_nums_take_J2 x8 x1) (fin_nums_take_J2 x8 x1 r):=by
 unfold nums_take_J2 at h
 exact run_by nB WJ142_bbbbba_ok h (.br 40 (fun _=>E0 [2,3,4]) fun _=>.br 43 (fun _=>E0 [2,3,4]) fun _=>E0 [2,5])
def nums_take (p_b:List UInt8):Option (Int × Int × Int) :=
 (slices_IndexFunc_byte_byte p_b).bind fun (x1:Int)=>cond (decide (x1 < 0)) (some (0,0,3)) ((nums_take_J0 x1 p_b).bind fun (x3:Unit ⊕ Unit)=>cond (isL x3) (some (0,0,2)) ((nums_take_L1 p_b x1 (0,x1)).bind fun (x8:Int)=>(nums_take_J2 x8 x1).bind fun (x9:Unit ⊕ Unit)=>cond (isL x9) (some (0,0,2)) (some (x8,(IntKind.i64.wrap (x1+1)),0))))
def out_nums_take (p_b:List UInt8) (r:Int × Int × Int):AV × WH:=((.tuple [(.int .i64 r.1),(.int .i64 r.2.1),(.int .i64 r.2.2)]),[])
theorem s_nums_take (d:Nat) {p_b:List UInt8} {r:Int × Int × Int} (h:nums_take p_b=some r):Spec (wcalls atab (d+3)) 142 [(l_B p_b)] [] (out_nums_take p_b r).1 (out_nums_take p_b r).2:=by
 unfold nums_take at h
 exact spec_by nB AF142 h (.bd fun x1 q1=>Cb0 (s_slices_IndexFunc_byte_byte (d+0) q1) <| .br 10 (fun _=>Fn Fo [] none) fun _=>.bd fun x3 q3=>.ite (fun hb4=>Jn [0,2,5] [none,none,none] [] [] (rwr (il hb4) (s_nums_take_J0 (d+2) q3)) <| Fn Fo [] none) fun hb4=>Jn [0,2,5] [none,none,none] [] [] (rwr (ir0 hb4) (s_nums_take_J0 (d+2) q3)) <| .bd fun x8 q8=>Lp [none,none,none,none] [] [] (s_nums_take_L1 (d+2) q8) <| .bd fun x9 q9=>.ite (fun hb10=>Jn [2,5] [none,none] [] [] (rwr (il hb10) (s_nums_take_J2 (d+2) q9)) <| Fn Fo [] none) fun hb10=>Jn [2,5] [none,none] [] [] (rwr (ir0 hb10) (s_nums_take_J2 (d+2) q9)) <| Fn Fo [] none)
def nums_own (p_b:List UInt8):Option (List UInt8) :=
 gd (fitsB 1 p_b.length) (some p_b)
def out_nums_own (p_b:List UInt8) (r:List UInt8):AV × WH:=((l_B r),[])
theorem s_nums_own (d:Nat) {p_b:List UInt8} {r:List UInt8} (h:nums_own p_b=some r):Spec (wcalls atab (d+2)) 144 [(l_B p_b)] [] (out_nums_own p_b r).1 (out_nums_own p_b r).2:=by
 unfold nums_own at h
 exact spec_by (wB_ok _) AF144 h (.gd fun q1=>.ob q1 <| Fn Fo [] none)
def st_nums_Takes_L0 (count:Int) (p_b:List UInt8) (s7:Int × Int × List Int):List AV × WH:=([(l_B p_b),(.acc 0 0 1 s7.2.2.length true),(.int .i64 s7.1),(.int .i64 (if count > 0 then count else 0)),(.int .i64 s7.2.1)],[(some (.cells (F_I s7.2.2) false true))])
def fin_nums_Takes_L0 (count:Int) (p_b:List UInt8):Int ⊕ (Int × List Int)→Ex × Fast × WH:=fun
 | .inl e=>(.ret,[(4,(.slice none 1 0 0 true)),(5,(.slice none 1 0 0 true)),(6,(.int .i64 e))],[])
 | .inr e=>((.exit 0),[(0,(l_B p_b)),(4,(.acc 0 0 1 e.2.length true)),(7,(.int .i64 e.1))],[(some (.cells (F_I e.2) false true))])
abbrev rx_nums_Takes_L0 (count:Int) (p_b:List UInt8):=roundX [0,4,7,12,13] (st_nums_Takes_L0 count p_b) (fin_nums_Takes_L0 count p_b)
def nums_Takes_L0_s (count:Int) (p_b:List UInt8) (s7:Int × Int × List Int):Option ((Int × Int × List Int) ⊕ (Int ⊕ (Int × List Int))) :=
 cond (decide (s7.2.1 < (if count > 0 then count else 0))) ((slI p_b s7.1 p_b.length).bind fun (x8:List UInt8)=>(nums_take x8).bind fun (x9:Int × Int × Int)=>cond (x9.2.2 != 0) (some (.inr (.inl x9.2.2))) (gd (fitsB 8 (s7.2.2 ++ [x9.1]).length) (some (.inl ((IntKind.i64.wrap (s7.1+x9.2.1)),(IntKind.i64.wrap (s7.2.1+1)),(s7.2.2 ++ [x9.1])))))) (some (.inr (.inr (s7.1,s7.2.2))))
def nums_Takes_L0 (count:Int) (p_b:List UInt8) (s7:Int × Int × List Int):Option (Int ⊕ (Int × List Int)):=loopX (nums_Takes_L0_s count p_b) KK s7
theorem b_nums_Takes_L0 (d:Nat) {count:Int} {p_b:List UInt8} {s7:Int × Int × List Int} {r:(Int × Int × List Int) ⊕ (Int ⊕ (Int × List Int))} (h:nums_Takes_L0_s count p_b s7=some r):RunX (bexec (wcalls atab (d+3)) KK 40 WB89_0) 0 (inL [0,4,7,12,13] (st_nums_Takes_L0 count p_b s7)) (rx_nums_Takes_L0 count p_b r):=by
 unfold nums_Takes_L0_s at h
 exact run_by nB WB89_0_ok h (.br 14 (fun _=>.bd fun x8 q8=>Sl R_B 18 q8 <| .bd fun x9 q9=>Cb0 (s_nums_take (d+0) q9) <| .br 24 (fun _=>E0 [4,5,6]) fun _=>.gd fun q10=>Ap R_I 29 q10 <| E0 [0,4,7,12,13]) fun _=>E0 [0,4,7])
theorem s_nums_Takes_L0 (d:Nat) {count:Int} {p_b:List UInt8} {s7:Int × Int × List Int} {r:Int ⊕ (Int × List Int)} (h:nums_Takes_L0 count p_b s7=some r):RunX (bloop (bexec (wcalls atab (d+3)) KK 40 WB89_0) [0,4,7,12,13] KK) 0 (inL [0,4,7,12,13] (st_nums_Takes_L0 count p_b s7)) (fin_nums_Takes_L0 count p_b r) :=
 loop_of (st:=st_nums_Takes_L0 count p_b) (fin:=fin_nums_Takes_L0 count p_b) (step:=nums_Takes_L0_s count p_b) (fun e=>by rcases e with e | e <;> (intro h; cases h)) (fun s x h=>b_nums_Takes_L0 d h) KK s7 r h
def nums_Takes (p_b:List UInt8) (count:Int):Option (List Int × List UInt8 × Int) :=
 (nums_Takes_L0 count p_b (0,0,[])).bind fun (x11:Int ⊕ (Int × List Int))=>cond (isL x11) (some ([],[],(getL x11))) ((slI p_b (getR x11).1 p_b.length).bind fun (x13:List UInt8)=>(nums_own x13).bind fun (x14:List UInt8)=>some ((getR x11).2,x14,0))
def out_nums_Takes (p_b:List UInt8) (count:Int) (r:List Int × List UInt8 × Int):AV × WH:=((.tuple [(l_I r.1),(l_B r.2.1),(.int .i64 r.2.2)]),[])
theorem s_nums_Takes (d:Nat) {p_b:List UInt8} {count:Int} {r:List Int × List UInt8 × Int} (h:nums_Takes p_b count=some r):Spec (wcalls atab (d+4)) 89 [(l_B p_b),(.int .i64 count)] [] (out_nums_Takes p_b count r).1 (out_nums_Takes p_b count r).2:=by
 unfold nums_Takes at h
 exact spec_by (wB_ok _) AF89 h (.bd fun x11 q11=>.ite (fun hb12=>Lp [none,Tw,none,none,none] [] [] (rwr (il hb12) (s_nums_Takes_L0 (d+0) q11)) <| Fn Fo [] none) fun hb12=>Lp [none,Tw,none,none,none] [] [] (rwr (ir0 hb12) (s_nums_Takes_L0 (d+0) q11)) <| .bd fun x13 q13=>Sl R_B 38 q13 <| .bd fun x14 q14=>Cl [] Fo [] (s_nums_own (d+1) q14) <| Fn Fo [] none)
def nums_TakeText (p_b:List UInt8):Option (List UInt8 × List UInt8 × Int) :=
 (nums_take p_b).bind fun (x1:Int × Int × Int)=>cond (x1.2.2 != 0) (some (([]:List UInt8),[],x1.2.2)) (cond (decide (x1.1 > (IntKind.i64.wrap ((p_b.length:Int) - x1.2.1)))) (some (([]:List UInt8),[],3)) ((slI p_b (IntKind.i64.wrap (x1.2.1+x1.1)) p_b.length).bind fun (x2:List UInt8)=>(nums_own x2).bind fun (x3:List UInt8)=>(slI p_b x1.2.1 (IntKind.i64.wrap (x1.2.1+x1.1))).bind fun (x4:List UInt8)=>some (x4,x3,0)))
def out_nums_TakeText (p_b:List UInt8) (r:List UInt8 × List UInt8 × Int):AV × WH:=((.tuple [(.str r.1),(l_B r.2.1),(.int .i64 r.2.2)]),[])
theorem s_nums_TakeText (d:Nat) {p_b:List UInt8} {r:List UInt8 × List UInt8 × Int} (h:nums_TakeText p_b=some r):Spec (wcalls atab (d+4)) 92 [(l_B p_b)] [] (out_nums_TakeText p_b r).1 (out_nums_TakeText p_b r).2:=by
 unfold nums_TakeText at h
 exact spec_by nB AF92 h (.bd fun x1 q1=>Cb0 (s_nums_take (d+0) q1) <| .br 13 (fun _=>Fn Fo [] none) fun _=>.br 17 (fun _=>Fn Fo [] none) fun _=>.bd fun x2 q2=>Sl R_B 35 q2 <| .bd fun x3 q3=>Cl [] Fo [] (s_nums_own (d+1) q3) <| .bd fun x4 q4=>Sb R_B 29 q4 <| .v 30 (.str x4) <| .ob (by rw [show F_B x4=(x4).map byteC from rfl,toBytes_map]; rfl:(toBytes (F_B x4)).map AV.str=some (.str x4)) <| Fn Fo [] none)
def st_codec_texts_L0 (count:Int) (s5:List UInt8 × Int × List (List UInt8)):List AV × WH:=([(l_B s5.1),(.acc 0 0 1 s5.2.2.length true),(.int .i64 count),(.int .i64 s5.2.1)],[(some (.cells (F_S s5.2.2) false true))])
def fin_codec_texts_L0 (count:Int):Int ⊕ (List UInt8 × List (List UInt8))→Ex × Fast × WH:=fun
 | .inl e=>(.ret,[(4,(.slice none 1 0 0 true)),(5,(.slice none 1 0 0 true)),(6,(.int .i64 e))],[])
 | .inr e=>((.exit 0),[(0,(l_B e.1)),(4,(.acc 0 0 1 e.2.length true))],[(some (.cells (F_S e.2) false true))])
abbrev rx_codec_texts_L0 (count:Int):=roundX [0,4,8,9] (st_codec_texts_L0 count) (fin_codec_texts_L0 count)
def codec_texts_L0_s (count:Int) (s5:List UInt8 × Int × List (List UInt8)):Option ((List UInt8 × Int × List (List UInt8)) ⊕ (Int ⊕ (List UInt8 × List (List UInt8)))) :=
 cond (decide (s5.2.1 < count)) ((nums_TakeText s5.1).bind fun (x6:List UInt8 × List UInt8 × Int)=>cond (x6.2.2 != 0) (some (.inr (.inl x6.2.2))) (gd (fitsB 16 (s5.2.2 ++ [x6.1]).length) (some (.inl (x6.2.1,(IntKind.i64.wrap (s5.2.1+1)),(s5.2.2 ++ [x6.1])))))) (some (.inr (.inr (s5.1,s5.2.2))))
def codec_texts_L0 (count:Int) (s5:List UInt8 × Int × List (List UInt8)):Option (Int ⊕ (List UInt8 × List (List UInt8))):=loopX (codec_texts_L0_s count) KK s5
theorem b_codec_texts_L0 (d:Nat) {count:Int} {s5:List UInt8 × Int × List (List UInt8)} {r:(List UInt8 × Int × List (List UInt8)) ⊕ (Int ⊕ (List UInt8 × List (List UInt8)))} (h:codec_texts_L0_s count s5=some r):RunX (bexec (wcalls atab (d+4)) KK 27 WB90_0) 0 (inL [0,4,8,9] (st_codec_texts_L0 count s5)) (rx_codec_texts_L0 count r):=by
 unfold codec_texts_L0_s at h
 exact run_by nB WB90_0_ok h (.br 10 (fun _=>.bd fun x6 q6=>Cl [] Fo [] (s_nums_TakeText (d+0) q6) <| .br 18 (fun _=>E0 [4,5,6]) fun _=>.gd fun q7=>Ap R_S 23 q7 <| E0 [0,4,8,9]) fun _=>E0 [0,4])
theorem s_codec_texts_L0 (d:Nat) {count:Int} {s5:List UInt8 × Int × List (List UInt8)} {r:Int ⊕ (List UInt8 × List (List UInt8))} (h:codec_texts_L0 count s5=some r):RunX (bloop (bexec (wcalls atab (d+4)) KK 27 WB90_0) [0,4,8,9] KK) 0 (inL [0,4,8,9] (st_codec_texts_L0 count s5)) (fin_codec_texts_L0 count r) :=
 loop_of (st:=st_codec_texts_L0 count) (fin:=fin_codec_texts_L0 count) (step:=codec_texts_L0_s count) (fun e=>by rcases e with e | e <;> (intro h; cases h)) (fun s x h=>b_codec_texts_L0 d h) KK s5 r h
def codec_texts (p_b:List UInt8) (count:Int):Option (List (List UInt8) × List UInt8 × Int) :=
 (codec_texts_L0 count (p_b,0,[])).bind fun (x8:Int ⊕ (List UInt8 × List (List UInt8)))=>cond (isL x8) (some ([],[],(getL x8))) (some ((getR x8).2,(getR x8).1,0))
def out_codec_texts (p_b:List UInt8) (count:Int) (r:List (List UInt8) × List UInt8 × Int):AV × WH:=((.tuple [(l_S r.1),(l_B r.2.1),(.int .i64 r.2.2)]),[])
theorem s_codec_texts (d:Nat) {p_b:List UInt8} {count:Int} {r:List (List UInt8) × List UInt8 × Int} (h:codec_texts p_b count=some r):Spec (wcalls atab (d+5)) 90 [(l_B p_b),(.int .i64 count)] [] (out_codec_texts p_b count r).1 (out_codec_texts p_b count r).2:=by
 unfold codec_texts at h
 exact spec_by nB AF90 h (.bd fun x8 q8=>.ite (fun hb9=>Lp [none,Tw,none,none] [] [] (rwr (il hb9) (s_codec_texts_L0 (d+0) q8)) <| Fn Fo [] none) fun hb9=>Lp [none,Tw,none,none] [] [] (rwr (ir0 hb9) (s_codec_texts_L0 (d+0) q8)) <| Fn Fo [] none)
def codec_ReadReq (p_b:List UInt8):Option (api_Req × List UInt8 × Int) :=
 (nums_Takes p_b 3).bind fun (x1:List Int × List UInt8 × Int)=>cond (x1.2.2 != 0) (some ((⟨0,0,(⟨0,([]:List UInt8),([]:List UInt8),([]:List UInt8)⟩:api_Op)⟩:api_Req),[],x1.2.2)) ((codec_texts x1.2.1 3).bind fun (x2:List (List UInt8) × List UInt8 × Int)=>cond (x2.2.2 != 0) (some ((⟨0,0,(⟨0,([]:List UInt8),([]:List UInt8),([]:List UInt8)⟩:api_Op)⟩:api_Req),[],x2.2.2)) ((getI x1.1 0).bind fun (x3:Int)=>(getI x1.1 1).bind fun (x4:Int)=>(getI x1.1 2).bind fun (x5:Int)=>(getI x2.1 0).bind fun (x6:List UInt8)=>(getI x2.1 1).bind fun (x7:List UInt8)=>(getI x2.1 2).bind fun (x8:List UInt8)=>(codec_RightReq (⟨x3,x4,(⟨x5,x6,x7,x8⟩:api_Op)⟩:api_Req)).bind fun (x9:Bool)=>cond (!x9) (some ((⟨0,0,(⟨0,([]:List UInt8),([]:List UInt8),([]:List UInt8)⟩:api_Op)⟩:api_Req),[],2)) (some ((⟨x3,x4,(⟨x5,x6,x7,x8⟩:api_Op)⟩:api_Req),x2.2.1,0))))
def out_codec_ReadReq (p_b:List UInt8) (r:api_Req × List UInt8 × Int):AV × WH:=((.tuple [(.agg (e_api_Req r.1)),(l_B r.2.1),(.int .i64 r.2.2)]),[])
theorem s_codec_ReadReq (d:Nat) {p_b:List UInt8} {r:api_Req × List UInt8 × Int} (h:codec_ReadReq p_b=some r):Spec (wcalls atab (d+6)) 29 [(l_B p_b)] [] (out_codec_ReadReq p_b r).1 (out_codec_ReadReq p_b r).2:=by
 unfold codec_ReadReq at h
 exact spec_by nB AF29 h (.bd fun x1 q1=>Cl [] Fo [] (s_nums_Takes (d+1) q1) <| .br 14 (fun _=>.st none <| Fn Fo [] none) fun _=>.bd fun x2 q2=>Cl [] Fo [] (s_codec_texts (d+0) q2) <| .br 24 (fun _=>.st none <| Fn Fo [] none) fun _=>.bd fun x3 q3=>Ix R_I 28 q3 <| .bd fun x4 q4=>Ix R_I 31 q4 <| .bd fun x5 q5=>Ix R_I 34 q5 <| .bd fun x6 q6=>Ix R_S 37 q6 <| .bd fun x7 q7=>Ix R_S 40 q7 <| .bd fun x8 q8=>Ix R_S 43 q8 <| .st none <| .bd fun x9 q9=>Cb0 (s_codec_RightReq (d+3) q9) <| .br 49 (fun _=>.st none <| Fn Fo [] none) fun _=>.st none <| Fn Fo [] none)
def oR_Reader_Answer (p_r:oR_Reader):Option (api_Answer × oR_Reader) :=
 (oR_Reader_Int p_r).bind fun (x1:Int × oR_Reader)=>(oR_Reader_Text x1.2).bind fun (x2:List UInt8 × oR_Reader)=>(oR_MayAnswer (⟨x1.1,x2.1⟩:api_Answer)).bind fun (x3:Bool)=>cond (!x3) ((oR_Reader_Fail 2 x2.2).bind fun (x4:oR_Reader)=>some ((⟨x1.1,x2.1⟩:api_Answer),x4)) (some ((⟨x1.1,x2.1⟩:api_Answer),x2.2))
def out_oR_Reader_Answer (p_r:oR_Reader) (r:api_Answer × oR_Reader):AV × WH:=((.agg (e_api_Answer r.1)),[(some (.cells (e_oR_Reader r.2) false false))])
theorem s_oR_Reader_Answer (d:Nat) {p_r:oR_Reader} {r:api_Answer × oR_Reader} (h:oR_Reader_Answer p_r=some r):Spec (wcalls atab (d+5)) 30 [(.ptr (some (0,0)))] [(some (.cells (e_oR_Reader p_r) false false))] (out_oR_Reader_Answer p_r r).1 (out_oR_Reader_Answer p_r r).2:=by
 unfold oR_Reader_Answer at h
 exact spec_by nB AF30 h (.bd fun x1 q1=>Cl [] Fo [] (s_oR_Reader_Int (d+1) q1) <| .bd fun x2 q2=>Cl [] Fo [] (s_oR_Reader_Text (d+0) q2) <| .st none <| .bd fun x3 q3=>Cb0 (s_oR_MayAnswer (d+3) q3) <| .br 11 (fun _=>.bd fun x4 q4=>Cl [] Fo [] (s_oR_Reader_Fail (d+3) q4) <| .st none <| Fn Fo [] none) fun _=>.st none <| Fn Fo [] none)
def nums_Take (p_b:List UInt8):Option (Int × List UInt8 × Int) :=
 (nums_take p_b).bind fun (x1:Int × Int × Int)=>cond (x1.2.2 != 0) (some (0,[],x1.2.2)) ((slI p_b x1.2.1 p_b.length).bind fun (x2:List UInt8)=>(nums_own x2).bind fun (x3:List UInt8)=>some (x1.1,x3,0))
def out_nums_Take (p_b:List UInt8) (r:Int × List UInt8 × Int):AV × WH:=((.tuple [(.int .i64 r.1),(l_B r.2.1),(.int .i64 r.2.2)]),[])
theorem s_nums_Take (d:Nat) {p_b:List UInt8} {r:Int × List UInt8 × Int} (h:nums_Take p_b=some r):Spec (wcalls atab (d+4)) 91 [(l_B p_b)] [] (out_nums_Take p_b r).1 (out_nums_Take p_b r).2:=by
 unfold nums_Take at h
 exact spec_by nB AF91 h (.bd fun x1 q1=>Cb0 (s_nums_take (d+0) q1) <| .br 13 (fun _=>Fn Fo [] none) fun _=>.bd fun x2 q2=>Sl R_B 18 q2 <| .bd fun x3 q3=>Cl [] Fo [] (s_nums_own (d+1) q3) <| Fn Fo [] none)
def codec_ReadAnswer (p_b:List UInt8):Option (api_Answer × List UInt8 × Int) :=
 (nums_Take p_b).bind fun (x1:Int × List UInt8 × Int)=>cond (x1.2.2 != 0) (some ((⟨0,([]:List UInt8)⟩:api_Answer),[],x1.2.2)) ((nums_TakeText x1.2.1).bind fun (x2:List UInt8 × List UInt8 × Int)=>cond (x2.2.2 != 0) (some ((⟨0,([]:List UInt8)⟩:api_Answer),[],x2.2.2)) ((codec_RightAnswer (⟨x1.1,x2.1⟩:api_Answer)).bind fun (x3:Bool)=>cond (!x3) (some ((⟨0,([]:List UInt8)⟩:api_Answer),[],2)) (some ((⟨x1.1,x2.1⟩:api_Answer),x2.2.1,0))))
def out_codec_ReadAnswer (p_b:List UInt8) (r:api_Answer × List UInt8 × Int):AV × WH:=((.tuple [(.agg (e_api_Answer r.1)),(l_B r.2.1),(.int .i64 r.2.2)]),[])
theorem s_codec_ReadAnswer (d:Nat) {p_b:List UInt8} {r:api_Answer × List UInt8 × Int} (h:codec_ReadAnswer p_b=some r):Spec (wcalls atab (d+5)) 31 [(l_B p_b)] [] (out_codec_ReadAnswer p_b r).1 (out_codec_ReadAnswer p_b r).2:=by
 unfold codec_ReadAnswer at h
 exact spec_by nB AF31 h (.bd fun x1 q1=>Cl [] Fo [] (s_nums_Take (d+0) q1) <| .br 14 (fun _=>.st none <| Fn Fo [] none) fun _=>.bd fun x2 q2=>Cl [] Fo [] (s_nums_TakeText (d+0) q2) <| .br 24 (fun _=>.st none <| Fn Fo [] none) fun _=>.st none <| .bd fun x3 q3=>Cb0 (s_codec_RightAnswer (d+3) q3) <| .br 32 (fun _=>.st none <| Fn Fo [] none) fun _=>.st none <| Fn Fo [] none)
abbrev in_oR_Reader_Count_J0 (x1:Int × oR_Reader) (most:Int):Fast × WH:=([(0,(.ptr (some (0,0)))),(1,(.int .i64 most)),(5,(.int .i64 x1.1))],[(some (.cells (e_oR_Reader x1.2) false false))])
def fin_oR_Reader_Count_J0 (x1:Int × oR_Reader) (most:Int):oR_Reader→Ex × Fast × WH:=fun e=>(.normal,[(0,(.ptr (some (0,0)))),(5,(.int .i64 x1.1))],[(some (.cells (e_oR_Reader e) false false))])
def oR_Reader_Count_J0 (x1:Int × oR_Reader) (most:Int):Option (oR_Reader) :=
 cond (decide (x1.1 > most)) ((oR_Reader_Fail 2 x1.2).bind fun (x2:oR_Reader)=>some x2) (some x1.2)
theorem s_oR_Reader_Count_J0 (d:Nat) {x1:Int × oR_Reader} {most:Int} {r:oR_Reader} (h:oR_Reader_Count_J0 x1 most=some r):RunX (bexec (wcalls atab (d+1)) KK 19 WJ93_bba) 1 (in_oR_Reader_Count_J0 x1 most) (fin_oR_Reader_Count_J0 x1 most r):=by
 unfold oR_Reader_Count_J0 at h
 exact run_by nB WJ93_bba_ok h (.br 10 (fun _=>.bd fun x2 q2=>Cl [] Fo [] (s_oR_Reader_Fail (d+0) q2) <| E0 [0,5]) fun _=>E0 [0,5])
def oR_Reader_Count (most:Int) (p_r:oR_Reader):Option (Int × oR_Reader) :=
 (oR_Reader_Int p_r).bind fun (x1:Int × oR_Reader)=>(oR_Reader_Count_J0 x1 most).bind fun (x3:oR_Reader)=>cond (x3.E != 0) (some (0,x3)) (some (x1.1,x3))
def out_oR_Reader_Count (most:Int) (p_r:oR_Reader) (r:Int × oR_Reader):AV × WH:=((.int .i64 r.1),[(some (.cells (e_oR_Reader r.2) false false))])
theorem s_oR_Reader_Count (d:Nat) {most:Int} {p_r:oR_Reader} {r:Int × oR_Reader} (h:oR_Reader_Count most p_r=some r):Spec (wcalls atab (d+4)) 93 [(.ptr (some (0,0))),(.int .i64 most)] [(some (.cells (e_oR_Reader p_r) false false))] (out_oR_Reader_Count most p_r r).1 (out_oR_Reader_Count most p_r r).2:=by
 unfold oR_Reader_Count at h
 exact spec_by nB AF93 h (.bd fun x1 q1=>Cl [] Fo [] (s_oR_Reader_Int (d+0) q1) <| .bd fun x3 q3=>Jn [0,1,5] [none,none,none] [] [] (s_oR_Reader_Count_J0 (d+2) q3) <| .br 17 (fun _=>Fn Fo [] none) fun _=>Fn Fo [] none)
end Go.Proofs.YtgahmammhclobaaGreat
