/- Chapter 48: concordances, what they lead to. Plain. -/
import Derived.Test.YtjdojhhngganeaaGreatDoorCcA
namespace Go.Fw
open Go Go.RowKit

def or2 (a b : Int) : Int := if a ≠ 0 then a else if b ≠ 0 then b else 0
abbrev numOk (n : Int) : Prop := 1 ≤ n ∧ n ≤ 999
def okAt (l : List Pr) (i : Nat) : Prop := (numOk (l.getD i dP).1 ∧ numOk (l.getD i dP).2) ∧ (0 < i → ltP (l.getD (i - 1) dP) (l.getD i dP))
instance (l : List Pr) (i : Nat) : Decidable (okAt l i) := by unfold okAt; infer_instance
def validC (l : List Pr) : Prop := (∀ i, i < l.length → okAt l i) ∧ l.length ≤ 128
instance (l : List Pr) : Decidable (validC l) := by unfold validC; infer_instance
theorem validC.asc {l : List Pr} (h : validC l) : Asc l := by
  have step : ∀ i, i + 1 < l.length → ltP (l.getD i dP) (l.getD (i + 1) dP) := fun i hi => (h.1 (i + 1) hi).2 (by omega)
  have far : ∀ d i, i + d + 1 < l.length → ltP (l.getD i dP) (l.getD (i + d + 1) dP) := by
    intro d
    induction d with
    | zero => intro i hi; exact step i hi
    | succ d ih => intro i hi; exact (ih i (by omega)).trans (step (i + d + 1) hi)
  refine List.pairwise_iff_getElem.2 fun i j hi hj hij => ?_
  have := far (j - i - 1) i (by omega)
  rw [show i + (j - i - 1) + 1 = j from by omega] at this
  rw [List.getD_eq_getElem?_getD, List.getD_eq_getElem?_getD, List.getElem?_eq_getElem hi, List.getElem?_eq_getElem hj] at this
  exact this
theorem validC.num {l : List Pr} (h : validC l) {x : Pr} (hx : x ∈ l) : numOk x.1 ∧ numOk x.2 := by
  obtain ⟨i, hi, rfl⟩ := List.mem_iff_getElem.1 hx
  have := (h.1 i hi).1
  rwa [List.getD_eq_getElem?_getD, List.getElem?_eq_getElem hi] at this
def valE (l : List Pr) : Int := if validC l then 0 else 1
/-- What is sorted, if it is not too long. -/
def sortR (l : List Pr) : List Pr := if (srt l).length ≤ 128 then srt l else []
def sortE (l : List Pr) : Int := if (srt l).length ≤ 128 then 0 else 6
def lukL (l : List Pr) (n : Int) : Nat → List Int
  | 0 => []
  | i + 1 => if (l.getD i dP).1 = n then lukL l n i ++ [(l.getD i dP).2] else lukL l n i
def lukR (l : List Pr) (n : Int) : List Int := if validC l then lukL l n l.length else []
def SPI (R : List Int) (er : Int) (v : Value) (φo : List VP) : Prop := ∃ (ad : Option Addr) (c : Nat), v = .tuple #[.slice ad R.length c, .int .i64 er] ∧ (R.length ≤ c ∧ c ≤ 9223372036854775807) ∧ φo = [vCells ad (i64s R)]
def SPP (R : List Pr) (er : Int) (v : Value) (φo : List VP) : Prop := ∃ (ad : Option Addr) (c : Nat), v = .tuple #[.slice ad R.length c, .int .i64 er] ∧ (R.length ≤ c ∧ c ≤ 9223372036854775807) ∧ φo = [vCells ad (pcells R)]
theorem nilP {w : World} {X : Nat → Prop} : (vCells none (pcells [])).holds X w := by
  intro j u hj; simp [pcells] at hj
theorem nilI {w : World} {X : Nat → Prop} : (vCells none (i64s [])).holds X w := by
  intro j u hj; simp [i64s] at hj
end Go.Fw
namespace Go.Fw
open Go Go.RowKit
end Go.Fw
namespace Go.Fw
open Go Go.RowKit
def IPP (R : List Pr) (v : Value) (φo : List VP) : Prop := ∃ (ad : Option Addr) (c : Nat), v = .slice ad R.length c ∧ (R.length ≤ c ∧ c ≤ 9223372036854775807) ∧ φo = [vCells ad (pcells R)]
end Go.Fw
namespace Go.Fw
open Go Go.RowKit
theorem caps0 : (0 : Nat) ≤ 0 ∧ 0 ≤ 9223372036854775807 := ⟨Nat.le_refl _, Nat.zero_le _⟩
/-! ## The inverse -/
def invF (l : List Pr) : Nat → List Pr
  | 0 => []
  | i + 1 => invF l i ++ [((l.getD i dP).2, (l.getD i dP).1)]
def invR (l : List Pr) : List Pr := if validC l then srt (invF l l.length) else []
/-! ## The composition -/
def cmpJ (p : Pr) (m : List Pr) : Nat → List Pr
  | 0 => []
  | j + 1 => if p.2 = (m.getD j dP).1 then cmpJ p m j ++ [(p.1, (m.getD j dP).2)] else cmpJ p m j
def cmpL (l m : List Pr) : Nat → List Pr
  | 0 => []
  | i + 1 => cmpL l m i ++ cmpJ (l.getD i dP) m m.length
/-- Both lists are asked. -/
def bothR (l m : List Pr) (R : List Pr) : List Pr := if validC l ∧ validC m then sortR R else []
def bothE (l m : List Pr) (R : List Pr) : Int := if validC l ∧ validC m then sortE R else 1
end Go.Fw
