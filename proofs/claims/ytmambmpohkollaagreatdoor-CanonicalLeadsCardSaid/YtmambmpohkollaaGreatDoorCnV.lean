/- Chapter 16: what a map that has been found is. Plain. -/
import Derived.Test.YtmambmpohkollaaGreatDoorCnU
namespace Go.Fw.Cn
open Go Go.RowKit Go.Fw
section
variable {O R O2 R2 : List Int} {K K2 : List Lk} {o : Option (List Nat × List Nat)} {e : Int}
theorem map_none (h : MapS O R K O2 R2 K2 o e) (he : e ≠ 0) : o = none := by
  rcases h with ⟨_, a, _⟩ | ⟨_, _, _, a, _⟩ | ⟨_, _, _, _, _, a, _⟩ | ⟨_, _, _, _, _, _, _, a⟩
  · exact a
  · exact a
  · exact a
  · exact Classical.byContradiction fun hn => he (a.trans (mErr_0.2 hn))
theorem map_some (h : MapS O R K O2 R2 K2 o e) (he : e = 0) : ∃ p q, o = some (p, q) ∧ valG O R K ∧ valG O2 R2 K2 ∧ O.length ≤ 6 ∧ R.length ≤ 6 ∧ O2.length ≤ 6 ∧ R2.length ≤ 6 ∧ O.length = O2.length ∧ R.length = R2.length ∧ Pre O.length O.length p ∧ Pre R.length R.length q ∧ mp (matG O R K) (matG O2 R2 K2) R.length p q := by
  rcases h with ⟨_, _, a⟩ | ⟨_, _, _, _, a⟩ | ⟨_, _, _, _, _, _, a⟩ | ⟨v1, v2, b1, b2, e1, e2, hf, a⟩
  · omega
  · omega
  · omega
  · cases o with
    | none => exact absurd rfl (mErr_0.1 (a.symm.trans he))
    | some x =>
      obtain ⟨p, q⟩ := x
      obtain ⟨h1, h2, h3⟩ := hf.mp
      rw [matG_len] at h1
      unfold bigG at b1 b2
      exact ⟨p, q, rfl, v1, v2, by omega, by omega, by omega, by omega, e1, e2, h1, h2, h3⟩
theorem mat_ok {D : List Rw} {x : Int} (hv : valG O R K) (h : (valG O R K ∧ e = 0 ∧ Rls D = matG O R K) ∨ (¬ valG O R K ∧ e = x ∧ D = [])) : e = 0 ∧ Rls D = matG O R K := by
  rcases h with ⟨_, a, b⟩ | ⟨a, _, _⟩
  · exact ⟨a, b⟩
  · exact absurd hv a
theorem lead_eq {X Y : List (List Int)} {w i k : Nat} {p q : List Nat} (hp : Pre X.length X.length p) (hq : Pre w w q) (h : mp X Y w p q) (hi : i < X.length) (hk : k < w) : (X.getD i []).getD k 0 = (Y.getD (p.getD i 0) []).getD (q.getD k 0) 0 := ((mp_iff hp hq).1 h i hi k hk).symm
end
end Go.Fw.Cn
