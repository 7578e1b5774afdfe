import Derived.Test.YtohoggieaanllaaGreatK5
import Derived.Test.YtohoggieaanllaaGreatY5
set_option linter.all false
set_option linter.unusedSimpArgs false
namespace Go.Proofs.YtohoggieaanllaaGreat
theorem acJ (x y:aD):(x.fB=y.fB∧x.Epoch=y.Epoch∧x.Pairs=y.Pairs∧x.gB=y.gB)↔x=y:=by
 obtain ⟨a,b,c,d⟩:=x;obtain ⟨a',b',c',d'⟩:=y
 simp
instance:DecidableEq aD:=λx y=>decidable_of_iff _ (acJ x y)
def small (x:aD):Prop:=x.Pairs.length < 1000000∧x.gB.length < 1000000
theorem ahS (a b:List Int) (h:a.length < 1000000):iM a b=some (decide (a=b)):=by
 unfold iM
 by_cases c:a.length=b.length
 ·rw [acw (by omega),cond_false]
  obtain ⟨e,e1,e2⟩:=XJ a b (λx y=>x==y) (λx y=>by simp) h c (iy a b) (λ_=>rfl)
  unfold nP
  rw [e1,Option.bind_some,e2]
  by_cases q:a=b<;>simp [q]
 ·rw [acv (by omega),aZ (λe=>c (by rw [e]))];rfl
theorem akG (a b:aD):decide (a=b)=(decide (a.fB=b.fB)&&(decide (a.Epoch=b.Epoch)&&(decide (a.Pairs=b.Pairs)&&decide (a.gB=b.gB)))):=by
 rw [Bool.eq_iff_iff]
 simp [← acJ]
theorem abN (a b:aD) (h:small a):AU a b=some (decide (a=b)):=by
 unfold AU
 have e1:=ahL a.Pairs b.Pairs h.1
 have e2:=equalS a.gB b.gB h.2
 rw [akG]
 simp only [WX (α:=Int),e1,e2,Option.bind_some]
 generalize decide (a.fB=b.fB)=x1
 generalize decide (a.Epoch=b.Epoch)=x2
 generalize decide (a.Pairs=b.Pairs)=x3
 generalize decide (a.gB=b.gB)=x4
 cases x1<;>cases x2<;>cases x3<;>rfl
end Go.Proofs.YtohoggieaanllaaGreat
