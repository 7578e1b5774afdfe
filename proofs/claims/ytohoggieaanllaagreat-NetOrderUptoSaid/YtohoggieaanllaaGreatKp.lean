import Derived.Test.YtohoggieaanllaaGreatK5
import Derived.Test.YtohoggieaanllaaGreatY6
set_option linter.all false
set_option linter.unusedSimpArgs false
namespace Go.Proofs.YtohoggieaanllaaGreat
theorem aku (x y:aA):(x.eY=y.eY∧x.Epoch=y.Epoch∧x.Pairs=y.Pairs∧x.dX=y.dX)↔x=y:=by
 obtain ⟨a,b,c,d⟩:=x;obtain ⟨a',b',c',d'⟩:=y
 simp
instance:DecidableEq aA:=λx y=>decidable_of_iff _ (aku x y)
def small (x:aA):Prop:=x.Pairs.length < 1000000∧x.dX.length < 1000000
theorem Bl {α β:Type} {P:β→Prop} {p:Pr α} {q:α→Pr β} (hq:∀ x b y r,q x b=.inr (y,r)→P y):∀ b y r,fP p q b=.inr (y,r)→P y:=by
 intro b y r h
 unfold fP at h
 split at h
 ·cases h
 ·exact hq _ _ _ _ h
theorem aqx {α:Type} (c:α→Bool) (x:α):∀ b y r,M7 c x b=.inr (y,r)→c y=true:=by
 intro b y r h
 unfold M7 at h
 split at h
 ·rename_i hc
  simp only [Sum.inr.injEq,Prod.mk.injEq] at h
  rw [← h.1]
  exact hc
 ·cases h
theorem av1:∀ b x r,abX b=.inr (x,r)→qV x=true :=
 Bl λ_=>Bl λ_=>Bl λ_=>Bl λ_=>Bl λ_=>aqx _ _
end Go.Proofs.YtohoggieaanllaaGreat
