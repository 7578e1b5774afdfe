import Derived.Test.YtohoggieaanllaaGreatH1
import Derived.Test.YtohoggieaanllaaGreatY6
set_option linter.all false
set_option linter.unusedSimpArgs false
namespace Go.Proofs.YtohoggieaanllaaGreat
theorem aaB (n:Int):∃ v,K3 n=some v:=by
 obtain ⟨k,hk,h⟩:=yB n 16 (by omega) (by omega)
 unfold K3
 rw [show (16:Int)=((16:Nat):Int) from rfl,hk,Option.bind_some,dI (by simpa using h),Option.bind_some]
 exact ⟨_,rfl⟩
theorem auw (a b c d:Int):∃ o,ZO a b c d=some o:=by
 obtain ⟨x1,h1⟩:=dG a 4 (by omega) (by omega)
 obtain ⟨x2,h2⟩:=aaB b
 obtain ⟨x4,h4⟩:=Lm c
 obtain ⟨x6,h6⟩:=Lm d
 have k4:((4:Nat):Int)=4:=rfl
 rw [k4] at h1
 unfold ZO
 rw [h1,Option.bind_some,h2,Option.bind_some]
 unfold NM NK
 rw [h4,h6]
 simp only [Option.bind_some]
 cases (IntKind.i64.wrap (1+x1)==2)<;>cases q:(IntKind.i64.wrap (1+x1)==4)<;>simp [q]
theorem PS (s:List UInt8) (n:Nat):∃ v,HY s (n:Int)=some v:=by
 unfold HY
 by_cases c:n < s.length
 ·rw [aZ (by omega),cond_true,adW s n (by omega)];exact ⟨_,rfl⟩
 ·rw [aV (by omega)];exact ⟨_,rfl⟩
theorem ag8 (x:dB):∃ r,IU x=some r:=by
 obtain ⟨x1,h1⟩:=dG x.Client 4 (by omega) (by omega)
 obtain ⟨x2,h2⟩:=dG x.Seq 9 (by omega) (by omega)
 obtain ⟨x3,h3⟩:=auw x.Kind x.Key x.Value x.Old
 obtain ⟨x4,h4⟩:=dG x.sH 16 (by omega) (by omega)
 obtain ⟨x5,h5⟩:=PS x.Text 12
 obtain ⟨x6,h6⟩:=PS x.Text 20
 obtain ⟨x7,h7⟩:=dG (IntKind.i64.wrap (Int.tdiv x.sH 16)) 8 (by omega) (by omega)
 obtain ⟨x8,h8⟩:=dG (IntKind.i64.wrap (Int.tdiv x.sH 16)) 9 (by omega) (by omega)
 obtain ⟨x9,h9⟩:=Gw (IntKind.i64.wrap (Int.tdiv x.sH 16))
 have k4:((4:Nat):Int)=4:=rfl
 have k8:((8:Nat):Int)=8:=rfl
 have k9:((9:Nat):Int)=9:=rfl
 have k12:((12:Nat):Int)=12:=rfl
 have k16:((16:Nat):Int)=16:=rfl
 have k20:((20:Nat):Int)=20:=rfl
 rw [k4] at h1;rw [k9] at h2 h8;rw [k16] at h4;rw [k12] at h5;rw [k20] at h6;rw [k8] at h7
 unfold IU
 rw [h1,Option.bind_some,h2,Option.bind_some,h3,Option.bind_some,h4,Option.bind_some,h5,h6,h7,h8,h9]
 cases (x4==10)<;>cases (x4==11)<;>cases (x4==12)<;>cases (x4==13)<;>cases (x4==14)<;>cases (x4==15)<;>exact ⟨_,rfl⟩
end Go.Proofs.YtohoggieaanllaaGreat
