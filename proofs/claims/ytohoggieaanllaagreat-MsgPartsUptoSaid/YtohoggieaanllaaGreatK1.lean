import Derived.Test.YtohoggieaanllaaGreatL4
set_option linter.all false
set_option linter.unusedSimpArgs false
namespace Go.Proofs.YtohoggieaanllaaGreat
abbrev Pr (α:Type):=List UInt8→Int⊕(α×List UInt8)
structure Fmt {α:Type} (enc:α→List UInt8) (p:Pr α) (ok:α→Prop):Prop where
 back:∀ x,ok x→∀ r,p (enc x++r)=.inr (x,r)
 cut:∀ x,ok x→∀ k,k < (enc x).length→p ((enc x).take k)=.inl 3
theorem Fmt.inj {α:Type} {enc:α→List UInt8} {p:Pr α} {ok:α→Prop} (h:Fmt enc p ok) {x y:α} (hx:ok x) (hy:ok y) {r s:List UInt8} (e:enc x++r=enc y++s):x=y∧r=s:=by
 have h1:=h.back x hx r
 rw [e,h.back y hy s] at h1
 have:=Prod.mk.inj (Sum.inr.inj h1)
 exact ⟨this.1.symm,this.2.symm⟩
def Shr {α:Type} (p:Pr α):Prop:=∀ b x r,p b=.inr (x,r)→r.length≤b.length
def Err {α:Type} (p:Pr α):Prop:=∀ b e,p b=.inl e→e=2∨e=3
def Jy:Pr Int:=λb=>match Om b with
 | (v,k,e)=>if e=0 then .inr (v,b.drop k.toNat) else .inl e
def vO (x:Int):Prop:=0≤x∧x≤4611686018427387903
instance (x:Int):Decidable (vO x):=by unfold vO;infer_instance
def eN (x:Int):List UInt8:=nu x.toNat
theorem KX:Fmt eN Jy vO:=by
 constructor
 ·intro x hx r
  unfold Jy eN
  rw [Lc x.toNat (by unfold vO at hx;omega) r]
  simp only [if_true,Int.toNat_natCast,List.drop_left]
  rw [Int.toNat_of_nonneg hx.1]
 ·intro x hx k hk
  unfold Jy
  have:=RZ x.toNat k hk []
  rw [List.append_nil] at this
  unfold eN
  rw [this]
  rfl
def P5:Pr (List UInt8):=λb=>match Om b with
 | (v,k,e)=>if e=0 then (if v.toNat≤b.length - k.toNat then .inr ((b.drop k.toNat).take v.toNat,b.drop (k.toNat+v.toNat)) else .inl 3) else .inl e
def okS (s:List UInt8):Prop:=s.length≤4611686018427387903
def eT (s:List UInt8):List UInt8:=nu s.length++s
theorem abD:Fmt eT P5 okS:=by
 constructor
 ·intro s hs r
  unfold P5 eT
  rw [List.append_assoc,Lc s.length hs (s++r)]
  simp only [if_true,Int.toNat_natCast,List.drop_left]
  rw [if_pos (by simp)]
  rw [← List.drop_drop,List.drop_left,List.take_left,List.drop_left]
 ·intro s hs k hk
  unfold P5 eT at *
  by_cases c:k < (nu s.length).length
  ·rw [RZ s.length k c s]
   rfl
  ·have e:(nu s.length++s).take k=nu s.length++s.take (k - (nu s.length).length):=by
    rw [List.take_append,List.take_of_length_le (by omega)]
   rw [e,Lc s.length hs]
   simp only [if_true,Int.toNat_natCast]
   rw [List.length_append] at hk
   rw [if_neg]
   simp only [List.length_append,List.length_take]
   omega
section
variable {α β:Type} {enc:α→List UInt8} {p:Pr α} {ok:α→Prop}
def qE (p:Pr α) (q:α→Pr β):Pr β:=λb=>match p b with
 | .inl e=>.inl e
 | .inr (x,r)=>q x r
theorem ahB {q:α→Pr β} {b:List UInt8} {e:Int} (h:p b=.inl e):qE p q b=.inl e:=by unfold qE;rw [h]
theorem abE {q:α→Pr β} {b r:List UInt8} {x:α} (h:p b=.inr (x,r)):qE p q b=q x r:=by unfold qE;rw [h]
def Lays (p:Pr α) (x:α) (e:List UInt8):Prop:=(∀ r,p (e++r)=.inr (x,r))∧∀ k,k < e.length→p (e.take k)=.inl 3
theorem Fmt.lays (h:Fmt enc p ok) {x:α} (hx:ok x):Lays p x (enc x):=⟨h.back x hx,h.cut x hx⟩
theorem Lays.nil (x:α):Lays (λb=>.inr (x,b)) x []:=⟨λ_=>rfl,λk h=>by simp at h⟩
theorem Lays.seq {q:α→Pr β} {x:α} {y:β} {e f:List UInt8} (h:Lays p x e) (g:Lays (q x) y f):Lays (qE p q) y (e++f):=by
 refine ⟨λr=>?_,λk hk=>?_⟩
 ·rw [List.append_assoc,abE (h.1 (f++r)),g.1]
 ·by_cases c:k < e.length
  ·rw [List.take_append_of_le_length (by omega)]
   exact ahB (h.2 k c)
  ·rw [List.take_append,List.take_of_length_le (by omega),abE (h.1 _)]
   exact g.2 _ (by rw [List.length_append] at hk;omega)
theorem Lays.last {q:α→Pr β} {x:α} {y:β} {e:List UInt8} (h:Lays p x e) (g:∀ r,q x r=.inr (y,r)):Lays (qE p q) y e:=by
 refine ⟨λr=>?_,λk hk=>ahB (h.2 k hk)⟩
 rw [abE (h.1 r),g]
theorem Lays.inj {x y:α} {e f r s:List UInt8} (h:Lays p x e) (g:Lays p y f) (q:e++r=f++s):x=y∧r=s:=by
 have h1:=h.1 r
 rw [q,g.1 s] at h1
 have:=Prod.mk.inj (Sum.inr.inj h1)
 exact ⟨this.1.symm,this.2.symm⟩
def OZ (p:Pr α):Nat→Pr (List α)
 | 0=>λb=>.inr ([],b)
 | n+1=>qE p λx=>qE (OZ p n) λl b=>.inr (x::l,b)
theorem Lays.rep (l:List α) (h:∀ x∈l,Lays p x (enc x)):Lays (OZ p l.length) l (l.flatMap enc):=by
 induction l with
 | nil=>exact .nil []
 | cons x l ih =>
  rw [List.flatMap_cons]
  exact (h x (by simp)).seq ((ih λy hy=>h y (by simp [hy])).last λr=>rfl)
def XG (c:α→Bool) (x:α):Pr α:=λb=>if c x then .inr (x,b) else .inl 2
end
end Go.Proofs.YtohoggieaanllaaGreat
