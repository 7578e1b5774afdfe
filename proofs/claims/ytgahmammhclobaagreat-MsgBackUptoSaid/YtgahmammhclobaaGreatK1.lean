import Derived.Test.YtgahmammhclobaaGreatL4
set_option linter.all false
set_option linter.unusedSimpArgs false
namespace Go.Proofs.YtgahmammhclobaaGreat
abbrev Pr (α:Type):=List UInt8→Int ⊕ (α × List UInt8)
structure Fmt {α:Type} (enc:α→List UInt8) (p:Pr α) (ok:α→Prop):Prop where
 back:∀ x,ok x→∀ r,p (enc x ++ r)=.inr (x,r)
 cut:∀ x,ok x→∀ k,k < (enc x).length→p ((enc x).take k)=.inl 3
theorem Fmt.inj {α:Type} {enc:α→List UInt8} {p:Pr α} {ok:α→Prop} (h:Fmt enc p ok) {x y:α} (hx:ok x) (hy:ok y) {r s:List UInt8} (e:enc x ++ r=enc y ++ s):x=y∧r=s:=by
 have h1:=h.back x hx r
 rw [e,h.back y hy s] at h1
 have:=Prod.mk.inj (Sum.inr.inj h1)
 exact ⟨this.1.symm,this.2.symm⟩
def Shr {α:Type} (p:Pr α):Prop:=∀ b x r,p b=.inr (x,r)→r.length≤b.length
def Err {α:Type} (p:Pr α):Prop:=∀ b e,p b=.inl e→e=2∨e=3
def pNum:Pr Int:=fun b=>match takeOf b with
 | (v,k,e)=>if e=0 then .inr (v,b.drop k.toNat) else .inl e
def okN (x:Int):Prop:=0≤x∧x≤4611686018427387903
instance (x:Int):Decidable (okN x):=by unfold okN; infer_instance
def eN (x:Int):List UInt8:=encN x.toNat
theorem f_num:Fmt eN pNum okN:=by
 constructor
 ·intro x hx r
  unfold pNum eN
  rw [takeOf_enc x.toNat (by unfold okN at hx; omega) r]
  simp only [if_true,Int.toNat_natCast,List.drop_left]
  rw [Int.toNat_of_nonneg hx.1]
 ·intro x hx k hk
  unfold pNum
  have:=takeOf_cut x.toNat k hk []
  rw [List.append_nil] at this
  unfold eN
  rw [this]
  rfl
theorem num_shr:Shr pNum:=by
 intro b x r h
 unfold pNum at h
 rcases takeOf_cases b with e | e | ⟨v,k,e,_⟩ <;> rw [e] at h <;> simp at h
 obtain ⟨_,rfl⟩:=h
 simp
theorem num_err:Err pNum:=by
 intro b x h
 unfold pNum at h
 rcases takeOf_cases b with e | e | ⟨v,k,e,_⟩ <;> rw [e] at h <;> simp at h
 ·exact .inr h.symm
 ·exact .inl h.symm
theorem num_ok {b r:List UInt8} {x:Int} (h:pNum b=.inr (x,r)):okN x:=by
 unfold pNum at h
 rcases takeOf_cases b with e | e | ⟨v,k,e,h1,_⟩ <;> rw [e] at h <;> simp at h
 obtain ⟨rfl,_⟩:=h
 exact ⟨by omega,by omega⟩
def pText:Pr (List UInt8):=fun b=>match takeOf b with
 | (v,k,e)=>if e=0 then (if v.toNat≤b.length - k.toNat then .inr ((b.drop k.toNat).take v.toNat,b.drop (k.toNat+v.toNat)) else .inl 3) else .inl e
def okS (s:List UInt8):Prop:=s.length≤4611686018427387903
def eT (s:List UInt8):List UInt8:=encN s.length ++ s
theorem f_text:Fmt eT pText okS:=by
 constructor
 ·intro s hs r
  unfold pText eT
  rw [List.append_assoc,takeOf_enc s.length hs (s ++ r)]
  simp only [if_true,Int.toNat_natCast,List.drop_left]
  rw [if_pos (by simp)]
  rw [← List.drop_drop,List.drop_left,List.take_left,List.drop_left]
 ·intro s hs k hk
  unfold pText eT at *
  by_cases c:k < (encN s.length).length
  ·rw [takeOf_cut s.length k c s]
   rfl
  ·have e:(encN s.length ++ s).take k=encN s.length ++ s.take (k - (encN s.length).length):=by
    rw [List.take_append,List.take_of_length_le (by omega)]
   rw [e,takeOf_enc s.length hs]
   simp only [if_true,Int.toNat_natCast]
   rw [List.length_append] at hk
   rw [if_neg]
   simp only [List.length_append,List.length_take]
   omega
theorem text_shr:Shr pText:=by
 intro b x r h
 unfold pText at h
 rcases takeOf_cases b with e | e | ⟨v,k,e,_⟩ <;> rw [e] at h <;> simp at h
 split at h
 ·obtain ⟨_,rfl⟩:=Prod.mk.inj (Sum.inr.inj h)
  simp
 ·cases h
theorem text_err:Err pText:=by
 intro b x h
 unfold pText at h
 rcases takeOf_cases b with e | e | ⟨v,k,e,_⟩ <;> rw [e] at h <;> simp at h
 ·exact .inr h.symm
 ·exact .inl h.symm
 ·split at h
  ·cases h
  ·exact .inr (Sum.inl.inj h).symm
section
variable {α β:Type} {enc:α→List UInt8} {p:Pr α} {ok:α→Prop}
def pSeq (p:Pr α) (q:α→Pr β):Pr β:=fun b=>match p b with
 | .inl e=>.inl e
 | .inr (x,r)=>q x r
theorem pSeq_l {q:α→Pr β} {b:List UInt8} {e:Int} (h:p b=.inl e):pSeq p q b=.inl e:=by unfold pSeq; rw [h]
theorem pSeq_r {q:α→Pr β} {b r:List UInt8} {x:α} (h:p b=.inr (x,r)):pSeq p q b=q x r:=by unfold pSeq; rw [h]
theorem seq_shr {q:α→Pr β} (hp:Shr p) (hq:∀ x,Shr (q x)):Shr (pSeq p q):=by
 intro b x r h
 unfold pSeq at h
 split at h
 ·cases h
 ·rename_i y s e
  have:=hp _ _ _ e
  have:=hq _ _ _ _ h
  omega
theorem seq_err {q:α→Pr β} (hp:Err p) (hq:∀ x,Err (q x)):Err (pSeq p q):=by
 intro b x h
 unfold pSeq at h
 split at h
 ·rename_i e' e
  rw [← Sum.inl.inj h]
  exact hp _ _ e
 ·exact hq _ _ _ h
def Lays (p:Pr α) (x:α) (e:List UInt8):Prop:=(∀ r,p (e ++ r)=.inr (x,r))∧∀ k,k < e.length→p (e.take k)=.inl 3
theorem Fmt.lays (h:Fmt enc p ok) {x:α} (hx:ok x):Lays p x (enc x):=⟨h.back x hx,h.cut x hx⟩
theorem Lays.nil (x:α):Lays (fun b=>.inr (x,b)) x []:=⟨fun _=>rfl,fun k h=>by simp at h⟩
theorem Lays.seq {q:α→Pr β} {x:α} {y:β} {e f:List UInt8} (h:Lays p x e) (g:Lays (q x) y f):Lays (pSeq p q) y (e ++ f):=by
 refine ⟨fun r=>?_,fun k hk=>?_⟩
 ·rw [List.append_assoc,pSeq_r (h.1 (f ++ r)),g.1]
 ·by_cases c:k < e.length
  ·rw [List.take_append_of_le_length (by omega)]
   exact pSeq_l (h.2 k c)
  ·rw [List.take_append,List.take_of_length_le (by omega),pSeq_r (h.1 _)]
   exact g.2 _ (by rw [List.length_append] at hk; omega)
theorem Lays.last {q:α→Pr β} {x:α} {y:β} {e:List UInt8} (h:Lays p x e) (g:∀ r,q x r=.inr (y,r)):Lays (pSeq p q) y e:=by
 refine ⟨fun r=>?_,fun k hk=>pSeq_l (h.2 k hk)⟩
 rw [pSeq_r (h.1 r),g]
theorem Lays.inj {x y:α} {e f r s:List UInt8} (h:Lays p x e) (g:Lays p y f) (q:e ++ r=f ++ s):x=y∧r=s:=by
 have h1:=h.1 r
 rw [q,g.1 s] at h1
 have:=Prod.mk.inj (Sum.inr.inj h1)
 exact ⟨this.1.symm,this.2.symm⟩
def pRep (p:Pr α):Nat→Pr (List α)
 | 0=>fun b=>.inr ([],b)
 | n+1=>pSeq p fun x=>pSeq (pRep p n) fun l b=>.inr (x :: l,b)
theorem rep_shr (hp:Shr p):∀ n,Shr (pRep p n)
 | 0=>fun b x r h=>by
  simp only [pRep,Sum.inr.injEq,Prod.mk.injEq] at h
  rw [h.2]
  exact Nat.le_refl _
 | n+1=>seq_shr hp fun x=>seq_shr (rep_shr hp n) fun l b y r h=>by
  simp only [Sum.inr.injEq,Prod.mk.injEq] at h
  rw [h.2]
  exact Nat.le_refl _
theorem rep_err (hp:Err p):∀ n,Err (pRep p n)
 | 0=>fun b e h=>by simp [pRep] at h
 | n+1=>seq_err hp fun x=>seq_err (rep_err hp n) fun l b e h=>by simp at h
theorem rep_len:∀ {n:Nat} {b r:List UInt8} {l:List α},pRep p n b=.inr (l,r)→l.length=n
 | 0,b,r,l,h=>by
  simp only [pRep,Sum.inr.injEq,Prod.mk.injEq] at h
  rw [← h.1]
  rfl
 | n+1,b,r,l,h=>by
  simp only [pRep,pSeq] at h
  split at h
  ·cases h
  ·split at h
   ·cases h
   ·rename_i e
    simp only [Sum.inr.injEq,Prod.mk.injEq] at h
    rw [← h.1,List.length_cons,rep_len e]
theorem Lays.rep (l:List α) (h:∀ x ∈ l,Lays p x (enc x)):Lays (pRep p l.length) l (l.flatMap enc):=by
 induction l with
 | nil=>exact .nil []
 | cons x l ih =>
  rw [List.flatMap_cons]
  exact (h x (by simp)).seq ((ih fun y hy=>h y (by simp [hy])).last fun r=>rfl)
def pChk (c:α→Bool) (x:α):Pr α:=fun b=>if c x then .inr (x,b) else .inl 2
theorem chk_shr (c:α→Bool) (x:α):Shr (pChk c x):=by
 intro b y r h
 unfold pChk at h
 split at h
 ·simp only [Sum.inr.injEq,Prod.mk.injEq] at h
  rw [h.2]
  exact Nat.le_refl _
 ·cases h
theorem chk_err (c:α→Bool) (x:α):Err (pChk c x):=by
 intro b e h
 unfold pChk at h
 split at h
 ·cases h
 ·exact .inl (Sum.inl.inj h).symm
theorem rep_loop {S E:Type} (n:Nat) (hn:n < 1000000000000) (f:S→Option (S ⊕ E)) (st:Nat→List UInt8→List α→S) (err:List UInt8→Int→E) (done:List UInt8→List α→E) (m:Nat) (hp:Shr p)
  (h1:∀ (i:Nat) (b:List UInt8) (acc:List α),i < n→b.length≤m→acc.length=i→f (st i b acc)=match p b with
   | .inl e=>some (.inr (err b e))
   | .inr (x,r)=>some (.inl (st (i+1) r (acc ++ [x]))))
  (h2:∀ (b:List UInt8) (acc:List α),acc.length=n→f (st n b acc)=some (.inr (done b acc))) :
  ∀ (j:Nat) (k:Nat) (b:List UInt8) (acc:List α),j≤n→b.length≤m→acc.length=n - j→j < k→∃ c,loopX f k (st (n - j) b acc)=some (match pRep p j b with
   | .inl e=>err c e
   | .inr (l,r)=>done r (acc ++ l))
 | 0,k,b,acc,_,_,ha,hk=>by
  obtain ⟨k,rfl⟩:∃ i,k=i+1:=⟨k - 1,by omega⟩
  refine ⟨b, ?_⟩
  simp only [loopX,Nat.sub_zero,h2 b acc ha,pRep,List.append_nil]
 | j+1,k,b,acc,hj,hb,ha,hk=>by
  obtain ⟨k,rfl⟩:∃ i,k=i+1:=⟨k - 1,by omega⟩
  have e:=h1 (n - (j+1)) b acc (by omega) hb ha
  simp only [loopX,e]
  cases hx:p b with
  | inl er =>
   refine ⟨b, ?_⟩
   simp only [pRep,pSeq,hx]
  | inr y =>
   obtain ⟨x,r⟩:=y
   have hs:=hp _ _ _ hx
   obtain ⟨c,ih⟩:=rep_loop n hn f st err done m hp h1 h2 j k r (acc ++ [x]) (by omega) (by omega) (by simp; omega) (by omega)
   refine ⟨c, ?_⟩
   simp only
   rw [show n - (j+1)+1=n - j by omega,ih]
   simp only [pRep,pSeq,hx]
   cases pRep p j r with
   | inl e=>rfl
   | inr y=>simp
end
end Go.Proofs.YtgahmammhclobaaGreat
