import Derived.Test.YtohoggieaanllaaGreatK5
import Derived.Test.YtohoggieaanllaaGreatY7
set_option linter.all false
set_option linter.unusedSimpArgs false
namespace Go.Proofs.YtohoggieaanllaaGreat
theorem afu (x y:aC):(x.dR=y.dR∧x.Epoch=y.Epoch∧x.Pairs=y.Pairs∧x.dN=y.dN)↔x=y:=by
 obtain ⟨a,b,c,d⟩:=x;obtain ⟨a',b',c',d'⟩:=y
 simp
instance:DecidableEq aC:=λx y=>decidable_of_iff _ (afu x y)
def small (x:aC):Prop:=x.Pairs.length < 1000000∧x.dN.length < 1000000
theorem Ca {α β:Type} {P:β→Prop} {p:Pr α} {q:α→Pr β} (hq:∀ x b y r,q x b=.inr (y,r)→P y):∀ b y r,bH p q b=.inr (y,r)→P y:=by
 intro b y r h
 unfold bH at h
 split at h
 ·cases h
 ·exact hq _ _ _ _ h
theorem aqx {α:Type} (c:α→Bool) (x:α):∀ b y r,Ag c x b=.inr (y,r)→c y=true:=by
 intro b y r h
 unfold Ag at h
 split at h
 ·rename_i hc
  simp only [Sum.inr.injEq,Prod.mk.injEq] at h
  rw [← h.1]
  exact hc
 ·cases h
theorem avT:∀ b x r,PY b=.inr (x,r)→kH x=true :=
 Ca λ_=>Ca λ_=>Ca λ_=>Ca λ_=>Ca λ_=>aqx _ _
theorem aqy (a b:List Int) (h:a.length < 1000000):jS a b=some (decide (a=b)):=by
 unfold jS
 by_cases c:a.length=b.length
 ·rw [gX (by omega),cond_false]
  obtain ⟨e,e1,e2⟩:=S9 a b (λx y=>x==y) (λx y=>by simp) h c (jg a b) (λ_=>rfl)
  unfold rY
  rw [e1,Option.bind_some,e2]
  by_cases q:a=b<;>simp [q]
 ·rw [mD (by omega),aT (λe=>c (by rw [e]))];rfl
theorem auu (a b:aC):decide (a=b)=(decide (a.dR=b.dR)&&(decide (a.Epoch=b.Epoch)&&(decide (a.Pairs=b.Pairs)&&decide (a.dN=b.dN)))):=by
 rw [Bool.eq_iff_iff]
 simp [← afu]
theorem aj2 (a b:aC) (h:small a):FQ a b=some (decide (a=b)):=by
 unfold FQ
 have e1:=ajY a.Pairs b.Pairs h.1
 have e2:=equalS a.dN b.dN h.2
 rw [auu]
 simp only [aeA (α:=Int),e1,e2,Option.bind_some]
 generalize decide (a.dR=b.dR)=x1
 generalize decide (a.Epoch=b.Epoch)=x2
 generalize decide (a.Pairs=b.Pairs)=x3
 generalize decide (a.dN=b.dN)=x4
 cases x1<;>cases x2<;>cases x3<;>rfl
end Go.Proofs.YtohoggieaanllaaGreat
