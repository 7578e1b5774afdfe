import Derived.Test.YtgahmammhclobaaGreatC3
import Derived.Test.YtgahmammhclobaaGreatY5
set_option linter.all false
set_option linter.unusedSimpArgs false
namespace Go.Proofs.YtgahmammhclobaaGreat
def gk (k:Int) (x:api_Sess):Prop:=x.Seq=0∨(0 < x.Seq∧x.Client=k)
def GoodS (s:session_Sessions):Prop:=gk 0 s.l.a0∧gk 1 s.l.a1∧gk 2 s.l.a2∧gk 3 s.l.a3
def allOf (s:session_Sessions):List api_Sess:=s.l.toL.filter (fun x=>decide (0 < x.Seq))
def noneS:api_Sess:=⟨0,0,⟨0,[]⟩⟩
def lastOf (c:Int) (L:List api_Sess):api_Sess × Bool:=match L.find? (fun y=>y.Client == c) with
 | some y=>(y,true)
 | none=>(noneS,false)
def nstep (x:api_Sess) (p:Bool × List api_Sess) (y:api_Sess):Bool × List api_Sess :=
 let q:=bif !p.1 && decide (y.Client ≥ x.Client) then (true,p.2 ++ [x]) else p
 bif y.Client != x.Client then (q.1,q.2 ++ [y]) else q
def noteL (x:api_Sess) (L:List api_Sess):List api_Sess :=
 let p:=L.foldl (nstep x) (false,[])
 bif !p.1 then p.2 ++ [x] else p.2
def noteR (x:api_Sess) (L:List api_Sess):Bool × List api_Sess :=
 if x.Client < 0∨4≤x.Client∨x.Seq < 1∨x.Seq≤(lastOf x.Client L).1.Seq then (false,L) else (true,noteL x L)
theorem last_find (c:Int) (L:List api_Sess) (h:L.length < 1000000):∀ f:Int→Option (Int ⊕ (api_Sess ⊕ Unit)),
  (∀ s,f s=cond (decide (s < (L.length:Int))) ((getI L s).bind fun (x4:api_Sess)=>cond (x4.Client == c) ((getI L s).bind fun (x5:api_Sess)=>some (.inr (.inl x5))) (some (.inl (IntKind.i64.wrap (s+1))))) (some (.inr (.inr ())))) →
  loopX f KK 0=some (match L.find? (fun y=>y.Client == c) with | some y=>.inl y | none=>.inr ()):=by
 intro f hf
 have key:∃ e,loopX f KK ((0:Nat):Int)=some e∧e=(match L.find? (fun y=>y.Client == c) with | some y=>.inl y | none=>.inr ()):=by
  refine loopX_inv (fun s=>L.length - s.toNat) (fun s=>∃ i:Nat,s=(i:Int)∧i≤L.length∧L.find? (fun y=>y.Client == c)=(L.drop i).find? (fun y=>y.Client == c)) _ ?_ KK _ ⟨0,rfl,by omega,rfl⟩ (by have:=KK_big; omega)
  rintro s ⟨i,rfl,h1,h2⟩
  rw [hf]
  by_cases hi:i < L.length
  ·rw [dec_t (by omega),cond_true,getI_at hi,Option.bind_some,Option.bind_some]
   rw [List.drop_eq_getElem_cons hi,List.find?_cons] at h2
   cases e:(L[i].Client == c)
   ·left
    rw [cond_false,wrap_id (by omega) (by omega),succ_cast]
    rw [e] at h2
    exact ⟨_,rfl,⟨i+1,rfl,by omega,h2⟩,by omega⟩
   ·right
    rw [e] at h2
    rw [cond_true,h2]
    exact ⟨_,rfl,rfl⟩
  ·right
   rw [dec_f (by omega),cond_false,h2,List.drop_of_length_le (by omega)]
   exact ⟨_,rfl,rfl⟩
 obtain ⟨e,e1,rfl⟩:=key
 exact e1
theorem last2_plain (c:Int) (L:List api_Sess) (h:L.length < 1000000):oR_Sessions_Last_2 c L=some (lastOf c L):=by
 unfold oR_Sessions_Last_2 oR_Sessions_Last_2_L0 lastOf
 rw [last_find c L h (oR_Sessions_Last_2_L0_s L c) (fun _=>rfl),Option.bind_some]
 cases L.find? (fun y=>y.Client == c) <;> rfl
theorem nfold_len (x:api_Sess) (L:List api_Sess):∀ p:Bool × List api_Sess,(L.foldl (nstep x) p).2.length≤p.2.length+2 * L.length:=by
 induction L with
 | nil=>intro p; simp
 | cons y L ih =>
  intro p
  refine Nat.le_trans (ih _) ?_
  have:(nstep x p y).2.length≤p.2.length+2:=by
   unfold nstep
   cases (!p.1 && decide (y.Client ≥ x.Client)) <;> cases (y.Client != x.Client) <;> simp
  simp only [List.length_cons]
  omega
theorem gd_fits40 {β:Type} {n:Nat} {x:Option β} (h:n < 1000000):gd (fitsB 40 n) x=x:=by
 refine gd_true ?_
 unfold fitsB
 simp
 omega
theorem note2_loop (x:api_Sess) (L:List api_Sess) (h:L.length < 1000):oR_Sessions_Note_2_L3 L x (false,0,[])=some (L.foldl (nstep x) (false,[])):=by
 have e0:((false,0,[]):Bool × Int × List api_Sess)=(((L.take 0).foldl (nstep x) (false,[])).1,((0:Nat):Int),((L.take 0).foldl (nstep x) (false,[])).2):=by simp
 unfold oR_Sessions_Note_2_L3
 rw [e0]
 refine loop_run (fun i=>(((L.take i).foldl (nstep x) (false,[])).1,(i:Int),((L.take i).foldl (nstep x) (false,[])).2)) L.length _ (fun i hi=>?_) ?_ (by omega)
 ·have h5:(L.take (i+1)).foldl (nstep x) (false,[])=nstep x ((L.take i).foldl (nstep x) (false,[])) L[i]:=by
   rw [List.take_succ_eq_append_getElem hi,List.foldl_append]
   rfl
  have h6:=nfold_len x (L.take i) (false,[])
  have h7:(L.take i).length≤1000:=by rw [List.length_take]; omega
  rw [h5]
  generalize (L.take i).foldl (nstep x) (false,[])=p at *
  obtain ⟨b,o⟩:=p
  have h8:o.length < 10000:=by simp at h6; omega
  have h9:∀ (l:List api_Sess),o.length≤l.length→l.length≤o.length+2→l.length < 1000000:=fun l _ _=>by omega
  unfold oR_Sessions_Note_2_L3_s
  simp only
  rw [dec_t (by omega),cond_true]
  unfold oR_Sessions_Note_2_J2 oR_Sessions_Note_2_J1
  simp only
  rw [getI_at hi]
  simp only [Option.bind_some]
  unfold nstep
  simp only
  rw [wrap_id (x:=(i:Int)+1) (by omega) (by omega),succ_cast]
  cases b
  ·simp only [Bool.not_false,cond_true,Option.bind_some,Bool.true_and]
   cases (decide (L[i].Client ≥ x.Client)) <;> simp only [cond_true,cond_false,Option.bind_some]
   ·cases (L[i].Client != x.Client) <;> simp only [cond_true,cond_false]
    rw [gd_fits40 (by simp; omega)]
   ·rw [gd_fits40 (by simp; omega),Option.bind_some]
    cases (L[i].Client != x.Client) <;> simp only [cond_true,cond_false]
    rw [gd_fits40 (by simp; omega)]
  ·simp only [Bool.not_true,cond_false,Option.bind_some,Bool.false_and]
   cases (L[i].Client != x.Client) <;> simp only [cond_true,cond_false]
   rw [gd_fits40 (by simp; omega)]
 ·unfold oR_Sessions_Note_2_L3_s
  simp only
  rw [dec_f (by omega),cond_false,List.take_length]
theorem note2_plain (x:api_Sess) (L:List api_Sess) (h:L.length < 1000):oR_Sessions_Note_2 x L=some (noteR x L):=by
 unfold oR_Sessions_Note_2
 rw [last2_plain _ _ (by omega),Option.bind_some]
 unfold noteR oR_Sessions_Note_2_J0
 by_cases h1:x.Client < 0
 ·rw [dec_t h1,if_pos (.inl h1)]; rfl
 rw [dec_f h1,cond_false]
 by_cases h2:x.Client ≥ 4
 ·rw [dec_t h2,if_pos (.inr (.inl h2))]; rfl
 rw [dec_f h2,cond_false]
 by_cases h3:x.Seq < 1
 ·rw [dec_t h3,if_pos (.inr (.inr (.inl h3)))]; rfl
 rw [dec_f h3,cond_false]
 by_cases h4:x.Seq≤(lastOf x.Client L).1.Seq
 ·rw [dec_t h4,if_pos (.inr (.inr (.inr h4)))]; rfl
 rw [dec_f h4,cond_false,if_neg (by omega),Option.bind_some]
 simp only [isL,cond_false]
 rw [note2_loop x L h,Option.bind_some]
 unfold oR_Sessions_Note_2_J4 noteL
 have h6:=nfold_len x L (false,[])
 simp only
 cases (L.foldl (nstep x) (false,[])).1
 ·simp only [Bool.not_false,cond_true]
  rw [gd_fits40 (by simp at h6; simp; omega)]
  rfl
 ·rfl
theorem all_len (s:session_Sessions):(allOf s).length≤4:=by
 unfold allOf
 exact Nat.le_trans (List.length_filter_le _ _) (by simp [A4.toL])
theorem note_alike (x:api_Sess) (s:session_Sessions) (hs:GoodS s):∃ b s',session_Sessions_Note x s=some (b,s')∧GoodS s'∧noteR x (allOf s)=(b,allOf s'):=by
 by_cases h1:x.Client < 0
 ·exact ⟨false,s,by unfold session_Sessions_Note session_Sessions_Note_J0; rw [dec_t h1]; rfl,hs,by unfold noteR; rw [if_pos (.inl h1)]⟩
 by_cases h2:x.Client ≥ 4
 ·exact ⟨false,s,by unfold session_Sessions_Note session_Sessions_Note_J0; rw [dec_f h1,dec_t h2]; rfl,hs,by unfold noteR; rw [if_pos (.inr (.inl h2))]⟩
 by_cases h3:x.Seq < 1
 ·exact ⟨false,s,by unfold session_Sessions_Note session_Sessions_Note_J0; rw [dec_f h1,dec_f h2,dec_t h3]; rfl,hs,by unfold noteR; rw [if_pos (.inr (.inr (.inl h3)))]⟩
 have hx:0 < x.Seq:=by omega
 have step:∀ a:api_Sess,getI s.l.toL x.Client=some a→(lastOf x.Client (allOf s)).1.Seq=a.Seq→GoodS ⟨s.l.set x.Client x⟩→noteL x (allOf s)=allOf ⟨s.l.set x.Client x⟩ →
   ∃ b s',session_Sessions_Note x s=some (b,s')∧GoodS s'∧noteR x (allOf s)=(b,allOf s'):=by
  intro a ha hl hg hn
  by_cases h4:x.Seq≤a.Seq
  ·exact ⟨false,s,by unfold session_Sessions_Note session_Sessions_Note_J0; rw [dec_f h1,dec_f h2,dec_f h3,ha]; simp only [cond_false,Option.bind_some]; rw [dec_t h4]; rfl,hs,by unfold noteR; rw [if_pos (.inr (.inr (.inr (by rw [hl]; exact h4))))]⟩
  ·refine ⟨true,⟨s.l.set x.Client x⟩, ?_,hg, ?_⟩
   ·unfold session_Sessions_Note session_Sessions_Note_J0
    rw [dec_f h1,dec_f h2,dec_f h3,ha]
    simp only [cond_false,Option.bind_some]
    rw [dec_f h4]
    rfl
   ·unfold noteR
    rw [if_neg (by rw [hl]; omega),hn]
 obtain ⟨⟨a0,a1,a2,a3⟩⟩:=s
 obtain ⟨g0,g1,g2,g3⟩:=hs
 simp only at g0 g1 g2 g3
 have hc:x.Client=0∨x.Client=1∨x.Client=2∨x.Client=3:=by omega
 rcases hc with hc | hc | hc | hc
 ·refine step a0 (by rw [hc]; rfl) ?_ ?_ ?_
  ·rcases g0 with k0 | ⟨k0,q0⟩ <;> rcases g1 with k1 | ⟨k1,q1⟩ <;> rcases g2 with k2 | ⟨k2,q2⟩ <;> rcases g3 with k3 | ⟨k3,q3⟩ <;> simp [lastOf,allOf,A4.toL,noneS, *]
  ·rw [hc]; exact ⟨.inr ⟨hx,hc⟩,g1,g2,g3⟩
  ·rcases g0 with k0 | ⟨k0,q0⟩ <;> rcases g1 with k1 | ⟨k1,q1⟩ <;> rcases g2 with k2 | ⟨k2,q2⟩ <;> rcases g3 with k3 | ⟨k3,q3⟩ <;> simp [noteL,nstep,allOf,A4.toL,A4.set, *]
 ·refine step a1 (by rw [hc]; rfl) ?_ ?_ ?_
  ·rcases g0 with k0 | ⟨k0,q0⟩ <;> rcases g1 with k1 | ⟨k1,q1⟩ <;> rcases g2 with k2 | ⟨k2,q2⟩ <;> rcases g3 with k3 | ⟨k3,q3⟩ <;> simp [lastOf,allOf,A4.toL,noneS, *]
  ·rw [hc]; exact ⟨g0,.inr ⟨hx,hc⟩,g2,g3⟩
  ·rcases g0 with k0 | ⟨k0,q0⟩ <;> rcases g1 with k1 | ⟨k1,q1⟩ <;> rcases g2 with k2 | ⟨k2,q2⟩ <;> rcases g3 with k3 | ⟨k3,q3⟩ <;> simp [noteL,nstep,allOf,A4.toL,A4.set, *]
 ·refine step a2 (by rw [hc]; rfl) ?_ ?_ ?_
  ·rcases g0 with k0 | ⟨k0,q0⟩ <;> rcases g1 with k1 | ⟨k1,q1⟩ <;> rcases g2 with k2 | ⟨k2,q2⟩ <;> rcases g3 with k3 | ⟨k3,q3⟩ <;> simp [lastOf,allOf,A4.toL,noneS, *]
  ·rw [hc]; exact ⟨g0,g1,.inr ⟨hx,hc⟩,g3⟩
  ·rcases g0 with k0 | ⟨k0,q0⟩ <;> rcases g1 with k1 | ⟨k1,q1⟩ <;> rcases g2 with k2 | ⟨k2,q2⟩ <;> rcases g3 with k3 | ⟨k3,q3⟩ <;> simp [noteL,nstep,allOf,A4.toL,A4.set, *]
 ·refine step a3 (by rw [hc]; rfl) ?_ ?_ ?_
  ·rcases g0 with k0 | ⟨k0,q0⟩ <;> rcases g1 with k1 | ⟨k1,q1⟩ <;> rcases g2 with k2 | ⟨k2,q2⟩ <;> rcases g3 with k3 | ⟨k3,q3⟩ <;> simp [lastOf,allOf,A4.toL,noneS, *]
  ·rw [hc]; exact ⟨g0,g1,g2,.inr ⟨hx,hc⟩⟩
  ·rcases g0 with k0 | ⟨k0,q0⟩ <;> rcases g1 with k1 | ⟨k1,q1⟩ <;> rcases g2 with k2 | ⟨k2,q2⟩ <;> rcases g3 with k3 | ⟨k3,q3⟩ <;> simp [noteL,nstep,allOf,A4.toL,A4.set, *]
def zeroS:session_Sessions:=⟨⟨noneS,noneS,noneS,noneS⟩⟩
def noteS (s:session_Sessions) (x:api_Sess):session_Sessions:=match session_Sessions_Note x s with
 | some r=>r.2
 | none=>s
theorem noteS_good (x:api_Sess) (s:session_Sessions) (hs:GoodS s):(∃ b,session_Sessions_Note x s=some (b,noteS s x)∧noteR x (allOf s)=(b,allOf (noteS s x)))∧GoodS (noteS s x):=by
 obtain ⟨b,s',e1,e2,e3⟩:=note_alike x s hs
 have:noteS s x=s':=by unfold noteS; rw [e1]
 rw [this]
 exact ⟨⟨b,e1,e3⟩,e2⟩
theorem fold_good (l:List api_Sess):∀ s,GoodS s→GoodS (l.foldl noteS s):=by
 induction l with
 | nil=>exact fun s h=>h
 | cons x l ih=>exact fun s h=>ih _ (noteS_good x s h).2
theorem of_alike (l:List api_Sess) (h:l.length < 1000000000):∃ s,session_OfAll l=some s∧GoodS s∧oR_SessionsOf l=some ⟨allOf s⟩:=by
 have g0:GoodS zeroS:=⟨.inl rfl,.inl rfl,.inl rfl,.inl rfl⟩
 refine ⟨l.foldl noteS zeroS, ?_,fold_good l _ g0, ?_⟩
 ·unfold session_OfAll
  have key:session_OfAll_L0 l (0,zeroS)=some (l.foldl noteS zeroS):=by
   refine loop_run (fun i=>((i:Int),(l.take i).foldl noteS zeroS)) l.length _ (fun i hi=>?_) ?_ (by omega)
   ·obtain ⟨⟨b,e1,_⟩,_⟩:=noteS_good l[i] _ (fold_good (l.take i) _ g0)
    unfold session_OfAll_L0_s
    simp only
    rw [dec_t (by omega),cond_true,getI_at hi,Option.bind_some,e1,Option.bind_some,wrap_id (by omega) (by omega),succ_cast,List.take_succ_eq_append_getElem hi,List.foldl_append]
    rfl
   ·unfold session_OfAll_L0_s
    simp only
    rw [dec_f (by omega),cond_false,List.take_length]
  have e:(0,zeroS)=((0:Int),(⟨(⟨(⟨0,0,(⟨0,([]:List UInt8)⟩:api_Answer)⟩:api_Sess),(⟨0,0,(⟨0,([]:List UInt8)⟩:api_Answer)⟩:api_Sess),(⟨0,0,(⟨0,([]:List UInt8)⟩:api_Answer)⟩:api_Sess),(⟨0,0,(⟨0,([]:List UInt8)⟩:api_Answer)⟩:api_Sess)⟩:A4 api_Sess)⟩:session_Sessions)):=rfl
  rw [← e,key]
  rfl
 ·unfold oR_SessionsOf
  have key:oR_SessionsOf_L0 l (0,[])=some (allOf (l.foldl noteS zeroS)):=by
   refine loop_run (fun i=>((i:Int),allOf ((l.take i).foldl noteS zeroS))) l.length _ (fun i hi=>?_) ?_ (by omega)
   ·obtain ⟨⟨b,_,e1⟩,_⟩:=noteS_good l[i] _ (fold_good (l.take i) _ g0)
    have hl:=all_len ((l.take i).foldl noteS zeroS)
    unfold oR_SessionsOf_L0_s
    simp only
    rw [dec_t (by omega),cond_true,getI_at hi,Option.bind_some,note2_plain _ _ (by omega),Option.bind_some,e1,wrap_id (by omega) (by omega),succ_cast,List.take_succ_eq_append_getElem hi,List.foldl_append]
    rfl
   ·unfold oR_SessionsOf_L0_s
    simp only
    rw [dec_f (by omega),cond_false,List.take_length]
  rw [key]
  rfl
end Go.Proofs.YtgahmammhclobaaGreat
