/- The program logic's rule for a region that draws its order and has few orders: each order is walked. -/
import Derived.Test.YtgfldmhpindbpaaDoorFwJ
namespace Go.Fw
open Go Go.RowKit

section
variable {P : Program} {Q : Exit → Act → World → Prop} {w0 : Ctx} {σ : List Res} {φ : List (Bool × VP)} {fr : Fr}
/-- From here on whatever is ready is done, in any order. -/
def JA (P : Program) (l : List Oper) (Q : Exit → Act → World → Prop) (w0 : Ctx) (σ : List Res) (φ : List (Bool × VP)) (fuel : Nat) (listed : Array Bool) (fr : Fr) : Prop :=
  ∀ w, St w0 w σ φ → wpAny P .any l.toArray Q fuel listed (act fr) w
def NextA (P : Program) (l : List Oper) (Q : Exit → Act → World → Prop) (fuel : Nat) (listed : Array Bool) : Exit → Act → World → Prop
  | .normal, a, w => wpAny P .any l.toArray Q fuel listed a w
  | e, a, w => Q e a w
def AllA (P : Program) (l : List Oper) (Q : Exit → Act → World → Prop) (w0 : Ctx) (σ : List Res) (φ : List (Bool × VP)) (fuel : Nat) (listed : Array Bool) (fr : Fr) : List Nat → Prop
  | [] => True
  | i :: is => (∃ o, l[i]? = some o ∧ JL P l.toArray (NextA P l Q fuel (listed.setIfInBounds i true)) w0 σ φ [o] fr) ∧ AllA P l Q w0 σ φ fuel listed fr is
theorem AllA.mem {l : List Oper} {fuel : Nat} {listed : Array Bool} : ∀ {is : List Nat}, AllA P l Q w0 σ φ fuel listed fr is → ∀ i ∈ is, ∃ o, l[i]? = some o ∧ JL P l.toArray (NextA P l Q fuel (listed.setIfInBounds i true)) w0 σ φ [o] fr
  | _ :: _, h, i, hi => by
    rcases List.mem_cons.1 hi with rfl | hi
    · exact h.1
    · exact AllA.mem h.2 i hi
theorem JA_step {l : List Oper} {fuel : Nat} {listed : Array Bool} (is : List Nat) (hr : Region.ready .any l.toArray listed = is) (hne : is ≠ []) (h : AllA P l Q w0 σ φ fuel listed fr is) : JA P l Q w0 σ φ (fuel + 1) listed fr := by
  intro w s
  refine ⟨fun h0 => (hne (hr.symm.trans h0)).elim, fun i hi => ?_⟩
  rw [hr] at hi
  obtain ⟨o, ho, hj⟩ := h.mem i hi
  have h1 := hj w s
  unfold wpOp
  rw [List.getElem?_toArray, ho]
  simp only
  unfold wpList at h1
  split at h1
  · rename_i hw
    rw [if_pos hw]
    exact h1.imp (fun h => Oper.wp_conv (fun a w h => h) (fun _ _ _ h => h) (fun h => h) h) (fun h => ⟨h.1, h.2⟩)
  · rename_i hw
    rw [if_neg hw]
    exact h1
theorem JE_nextA {l : List Oper} {fuel : Nat} {listed : Array Bool} (h : JA P l Q w0 σ φ fuel listed fr) : JE (NextA P l Q fuel listed) .normal w0 σ φ fr := h
theorem JA_end {l : List Oper} {fuel : Nat} {listed : Array Bool} (hr : Region.ready .any l.toArray listed = []) (h : JE Q .normal w0 σ φ fr) : JA P l Q w0 σ φ fuel listed fr := by
  intro w s
  cases fuel with
  | zero => exact ⟨hr, h w s⟩
  | succ f => exact ⟨fun _ => h w s, fun i hi => by rw [hr] at hi; cases hi⟩
theorem JC_drawA (hm : P.follows .mixedOrders = true) {id : Nat} {l : List Oper} (n : Nat) (hn : l.length = n) (h : JA P l Q w0 σ φ n (Array.replicate n false) fr) : JC P (.region id l.toArray true) Q w0 σ φ fr := by
  intro w s
  have hn' : l.toArray.size = n := by simpa using hn
  subst hn'
  exact wp_region_any hm (h _ (s.ext ((Below.refl _ _).drew)))
/-- As soon as the order is forced: the rest as a list. -/
theorem JA_norm {l : List Oper} {fuel : Nat} {listed : Array Bool} (fr' : Fr) (σ' : List Res) (φ' : List (Bool × VP)) (h1 : fr' = fr) (h2 : σ' = σ) (h3 : φ' = φ) (h : JA P l Q w0 σ' φ' fuel listed fr') : JA P l Q w0 σ φ fuel listed fr := by
  subst h1 h2 h3; exact h
end
end Go.Fw
