import Derived.Test.YtohoggieaanllaaGreatH1
import Derived.Test.YtohoggieaanllaaGreatY7
set_option linter.all false
set_option linter.unusedSimpArgs false
namespace Go.Proofs.YtohoggieaanllaaGreat
theorem abe (n:Int):∃ v,LM n=some v:=by
 obtain ⟨k,hk,h⟩:=BZ n 16 (by omega) (by omega)
 unfold LM
 rw [show (16:Int)=((16:Nat):Int) from rfl,hk,Option.bind_some,dP (by simpa using h),Option.bind_some]
 exact ⟨_,rfl⟩
theorem auq (a b c d:Int):∃ o,aay a b c d=some o:=by
 obtain ⟨x1,h1⟩:=dO a 4 (by omega) (by omega)
 obtain ⟨x2,h2⟩:=abe b
 obtain ⟨x4,h4⟩:=Me c
 obtain ⟨x6,h6⟩:=Me d
 have k4:((4:Nat):Int)=4:=rfl
 rw [k4] at h1
 unfold aay
 rw [h1,Option.bind_some,h2,Option.bind_some]
 unfold Oq Oo
 rw [h4,h6]
 simp only [Option.bind_some]
 cases (IntKind.i64.wrap (1+x1)==2)<;>cases q:(IntKind.i64.wrap (1+x1)==4)<;>simp [q]
theorem Qn (s:List UInt8) (n:Nat):∃ v,IJ s (n:Int)=some v:=by
 unfold IJ
 by_cases c:n < s.length
 ·rw [bf (by omega),cond_true,VZ s n (by omega)];exact ⟨_,rfl⟩
 ·rw [aT (by omega)];exact ⟨_,rfl⟩
theorem ahL (x:dH):∃ r,Jo x=some r:=by
 obtain ⟨x1,h1⟩:=dO x.Client 4 (by omega) (by omega)
 obtain ⟨x2,h2⟩:=dO x.Seq 9 (by omega) (by omega)
 obtain ⟨x3,h3⟩:=auq x.Kind x.Key x.Value x.Old
 obtain ⟨x4,h4⟩:=dO x.ug 16 (by omega) (by omega)
 obtain ⟨x5,h5⟩:=Qn x.Text 12
 obtain ⟨x6,h6⟩:=Qn x.Text 20
 obtain ⟨x7,h7⟩:=dO (IntKind.i64.wrap (Int.tdiv x.ug 16)) 8 (by omega) (by omega)
 obtain ⟨x8,h8⟩:=dO (IntKind.i64.wrap (Int.tdiv x.ug 16)) 9 (by omega) (by omega)
 obtain ⟨x9,h9⟩:=Hl (IntKind.i64.wrap (Int.tdiv x.ug 16))
 have k4:((4:Nat):Int)=4:=rfl
 have k8:((8:Nat):Int)=8:=rfl
 have k9:((9:Nat):Int)=9:=rfl
 have k12:((12:Nat):Int)=12:=rfl
 have k16:((16:Nat):Int)=16:=rfl
 have k20:((20:Nat):Int)=20:=rfl
 rw [k4] at h1;rw [k9] at h2 h8;rw [k16] at h4;rw [k12] at h5;rw [k20] at h6;rw [k8] at h7
 unfold Jo
 rw [h1,Option.bind_some,h2,Option.bind_some,h3,Option.bind_some,h4,Option.bind_some,h5,h6,h7,h8,h9]
 cases (x4==10)<;>cases (x4==11)<;>cases (x4==12)<;>cases (x4==13)<;>cases (x4==14)<;>cases (x4==15)<;>exact ⟨_,rfl⟩
end Go.Proofs.YtohoggieaanllaaGreat
