import Derived.Test.YtohoggieaanllaaGreatKb
set_option linter.all false
set_option linter.unusedSimpArgs false
namespace Go.Proofs.YtohoggieaanllaaGreat
theorem Rdx.loop {α β:Type} {p:Pr α} (c:Nat) {F:Rdr→Option (Rdr×List α)} {g:List α→Rdr→Option (β×Rdr)} {q:List α→Pr β} (hp:Shr p) (he:Err p)
  (h1:∀ b e,e≠0→F ⟨b,e⟩=some (⟨b,e⟩,[]))
  (h2:∀ b,b.length < 500000000→match gP p c b with
   | .inl e=>∃ l s,F ⟨b,0⟩=some (⟨s,e⟩,l)∧l.length≤c∧s.length≤b.length
   | .inr (l,s)=>F ⟨b,0⟩=some (⟨s,0⟩,l)) (k:∀ l,l.length≤c→Rdx (g l) (q l)):Rdx (λr=>(F r).bind λy=>g y.2 y.1) (fP (gP p c) q):=by
 intro b e hb
 have h2:=h2 b hb
 refine ⟨λhee=>?_, ?_⟩
 ·simp only [h1 b e hee,Option.bind_some]
  exact (k [] (by simp) b e hb).1 hee
 ·unfold fP
  cases hx:gP p c b with
  | inl er =>
   have hne:er≠0:=by rcases iR he c _ _ hx with rfl | rfl<;>omega
   rw [hx] at h2
   obtain ⟨l,s,hf,hl,hs⟩:=h2
   obtain ⟨y,hy⟩:=(k l hl s er (by omega)).1 hne
   refine ⟨y,s, ?_,hs⟩
   simp only [hf,Option.bind_some]
   exact hy
  | inr y =>
   obtain ⟨l,s⟩:=y
   have hl:=yO hx
   have hs:=sw hp c _ _ _ hx
   rw [hx] at h2
   have h3:=(k l (by omega) s 0 (by omega)).2
   simp only at h2 ⊢
   simp only [h2,Option.bind_some]
   cases hq:q l s with
   | inl er =>
    rw [hq] at h3
    obtain ⟨z,t,hz,ht⟩:=h3
    exact ⟨z,t,hz,by omega⟩
   | inr z =>
    rw [hq] at h3
    exact h3
end Go.Proofs.YtohoggieaanllaaGreat
