import Derived.Test.YtgahmammhclobaaGreatH1
import Derived.Test.YtgahmammhclobaaGreatY5
set_option linter.all false
set_option linter.unusedSimpArgs false
namespace Go.Proofs.YtgahmammhclobaaGreat
theorem key_some (n:Int):∃ v,oH_Key n=some v:=by
 obtain ⟨k,hk,h⟩:=pick_nat n 16 (by omega) (by omega)
 unfold oH_Key
 rw [show (16:Int)=((16:Nat):Int) from rfl,hk,Option.bind_some,getI_at (by simpa using h),Option.bind_some]
 exact ⟨_,rfl⟩
theorem op_some (a b c d:Int):∃ o,oH_Op a b c d=some o:=by
 obtain ⟨x1,h1⟩:=pick_any a 4 (by omega) (by omega)
 obtain ⟨x2,h2⟩:=key_some b
 obtain ⟨x4,h4⟩:=value_some c
 obtain ⟨x6,h6⟩:=value_some d
 have k4:((4:Nat):Int)=4:=rfl
 rw [k4] at h1
 unfold oH_Op
 rw [h1,Option.bind_some,h2,Option.bind_some]
 unfold oH_Op_J1 oH_Op_J0
 rw [h4,h6]
 simp only [Option.bind_some]
 cases (IntKind.i64.wrap (1+x1) == 2) <;> cases q:(IntKind.i64.wrap (1+x1) == 4) <;> simp [q]
theorem text_some (s:List UInt8) (n:Nat):∃ v,oH_Text s (n:Int)=some v:=by
 unfold oH_Text
 by_cases c:n < s.length
 ·rw [dec_t (by omega),cond_true,slI_to s n (by omega)]; exact ⟨_,rfl⟩
 ·rw [dec_f (by omega)]; exact ⟨_,rfl⟩
theorem req_some (x:oH_RawOp):∃ r,oH_Req x=some r:=by
 obtain ⟨x1,h1⟩:=pick_any x.Client 4 (by omega) (by omega)
 obtain ⟨x2,h2⟩:=pick_any x.Seq 9 (by omega) (by omega)
 obtain ⟨x3,h3⟩:=op_some x.Kind x.Key x.Value x.Old
 obtain ⟨x4,h4⟩:=pick_any x.Bend 16 (by omega) (by omega)
 obtain ⟨x5,h5⟩:=text_some x.Text 12
 obtain ⟨x6,h6⟩:=text_some x.Text 20
 obtain ⟨x7,h7⟩:=pick_any (IntKind.i64.wrap (Int.tdiv x.Bend 16)) 8 (by omega) (by omega)
 obtain ⟨x8,h8⟩:=pick_any (IntKind.i64.wrap (Int.tdiv x.Bend 16)) 9 (by omega) (by omega)
 obtain ⟨x9,h9⟩:=num_some (IntKind.i64.wrap (Int.tdiv x.Bend 16))
 have k4:((4:Nat):Int)=4:=rfl
 have k8:((8:Nat):Int)=8:=rfl
 have k9:((9:Nat):Int)=9:=rfl
 have k12:((12:Nat):Int)=12:=rfl
 have k16:((16:Nat):Int)=16:=rfl
 have k20:((20:Nat):Int)=20:=rfl
 rw [k4] at h1; rw [k9] at h2 h8; rw [k16] at h4; rw [k12] at h5; rw [k20] at h6; rw [k8] at h7
 unfold oH_Req
 rw [h1,Option.bind_some,h2,Option.bind_some,h3,Option.bind_some,h4,Option.bind_some,h5,h6,h7,h8,h9]
 cases (x4 == 10) <;> cases (x4 == 11) <;> cases (x4 == 12) <;> cases (x4 == 13) <;> cases (x4 == 14) <;> cases (x4 == 15) <;> exact ⟨_,rfl⟩
end Go.Proofs.YtgahmammhclobaaGreat
