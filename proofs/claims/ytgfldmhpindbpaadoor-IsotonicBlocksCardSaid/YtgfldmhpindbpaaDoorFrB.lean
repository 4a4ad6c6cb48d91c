/- What functions on fractions and spans return, and what they are given. -/
import Derived.Test.YtgfldmhpindbpaaDoorFwK
import Derived.Test.YtgfldmhpindbpaaDoorFrA
namespace Go.Fw
open Go Go.RowKit Go.Nat9

/-- the canonical fraction of a number, or the zero value of the type -/
def FO (o : Option Rat) (v : Value) (φo : List VP) : Prop := ∃ (ad : Option Addr) (c : Nat) (be : Option Addr) (e : Nat),
  v = .agg #[.bool (fneg o), .slice ad (fnum o).length c, .slice be (fden o).length e] ∧ φo = [vCells ad (u32s (fnum o)), vCells be (u32s (fden o))]
/-- the same, and an error -/
def FOE (o : Option Rat) (er : Int) (v : Value) (φo : List VP) : Prop := ∃ (ad : Option Addr) (c : Nat) (be : Option Addr) (e : Nat),
  v = .tuple #[.agg #[.bool (fneg o), .slice ad (fnum o).length c, .slice be (fden o).length e], .int .i64 er] ∧ φo = [vCells ad (u32s (fnum o)), vCells be (u32s (fden o))]
/-- a span -/
def SO (o p : Option Rat) (v : Value) (φo : List VP) : Prop := ∃ (ad : Option Addr) (c : Nat) (be : Option Addr) (e : Nat) (ad' : Option Addr) (c' : Nat) (be' : Option Addr) (e' : Nat),
  v = .agg #[.bool (fneg o), .slice ad (fnum o).length c, .slice be (fden o).length e, .bool (fneg p), .slice ad' (fnum p).length c', .slice be' (fden p).length e'] ∧
  φo = [vCells ad (u32s (fnum o)), vCells be (u32s (fden o)), vCells ad' (u32s (fnum p)), vCells be' (u32s (fden p))]
/-- a span and another value -/
def SOE (o p : Option Rat) (er : Value) (v : Value) (φo : List VP) : Prop := ∃ (ad : Option Addr) (c : Nat) (be : Option Addr) (e : Nat) (ad' : Option Addr) (c' : Nat) (be' : Option Addr) (e' : Nat),
  v = .tuple #[.agg #[.bool (fneg o), .slice ad (fnum o).length c, .slice be (fden o).length e, .bool (fneg p), .slice ad' (fnum p).length c', .slice be' (fden p).length e'], er] ∧
  φo = [vCells ad (u32s (fnum o)), vCells be (u32s (fden o)), vCells ad' (u32s (fnum p)), vCells be' (u32s (fden p))]
/-- a sign and limbs of the number q, at most K limbs each -/
structure FIn (s : Bool) (n : Nat) (L : List Nat) (m : Nat) (M : List Nat) (q : Rat) (K : Nat) : Prop where
  num : NIn n L (val L) K
  den : NIn m M (val M) K
  eq : mkq s (val L) (val M) = q
theorem FIn.of {o : Option Rat} {K : Nat} (h : qs (fval o) K) : FIn (fneg o) (fnum o).length (fnum o) (fden o).length (fden o) (fval o) K := by
  cases o with
  | none => exact ⟨⟨rfl, fun _ h => (List.not_mem_nil h).elim, rfl, Nat.zero_le _⟩, ⟨rfl, fun _ h => (List.not_mem_nil h).elim, rfl, Nat.zero_le _⟩, mkq_zl _ _⟩
  | some q =>
    refine ⟨⟨rfl, U32.limbsOf _, rfl, h.1⟩, ⟨rfl, U32.limbsOf _, rfl, h.2⟩, ?_⟩
    show mkq (decide (q < 0)) (val (limbsOf _)) (val (limbsOf _)) = q
    rw [val_limbsOf, val_limbsOf, mkq_self]
theorem FIn.some {q : Rat} {K : Nat} (h : qs q K) : FIn (fneg (some q)) (fnum (some q)).length (fnum (some q)) (fden (some q)).length (fden (some q)) q K := FIn.of (o := Option.some q) h
theorem FIn.none {K : Nat} : FIn false 0 [] 0 [] 0 K := ⟨⟨rfl, fun _ h => (List.not_mem_nil h).elim, rfl, Nat.zero_le _⟩, ⟨rfl, fun _ h => (List.not_mem_nil h).elim, rfl, Nat.zero_le _⟩, mkq_zl _ _⟩
theorem FIn.mono {s : Bool} {n m K K' : Nat} {L M : List Nat} {q : Rat} (g : FIn s n L m M q K) (h : K ≤ K') : FIn s n L m M q K' := ⟨g.num.mono h, g.den.mono h, g.eq⟩
theorem FIn.qs {s : Bool} {n m K : Nat} {L M : List Nat} {q : Rat} (g : FIn s n L m M q K) : qs q (K + 1) := by
  rw [← g.eq]
  have h1 := g.num.sz; have h2 := g.num.le; have h3 := g.den.sz; have h4 := g.den.le
  exact qs_mkq _ (by omega) (by omega) (by omega)
theorem FIn.inv {q : Rat} {K : Nat} (h : Nat9.qs q K) : FIn (fneg (Option.some q)) (fden (Option.some q)).length (fden (Option.some q)) (fnum (Option.some q)).length (fnum (Option.some q)) q⁻¹ K :=
  ⟨⟨rfl, U32.limbsOf _, rfl, h.2⟩, ⟨rfl, U32.limbsOf _, rfl, h.1⟩, (mkq_inv _ _ _).trans (congrArg (·⁻¹) (FIn.some h).eq)⟩
theorem NIn.num {q : Rat} {K : Nat} (h : Nat9.qs q K) : NIn (fnum (Option.some q)).length (fnum (Option.some q)) q.num.natAbs K := NIn.of h.1
theorem NIn.den {q : Rat} {K : Nat} (h : Nat9.qs q K) : NIn (fden (Option.some q)).length (fden (Option.some q)) q.den K := NIn.of h.2
theorem u64_neg1 (n : Int) (h : n < 0) (h2 : -9223372036854775808 ≤ n) : IntKind.u64.wrap n = n + 18446744073709551616 := by
  simp [IntKind.wrap, IntKind.bits, IntKind.signed]; omega
theorem u64_neg2 (n : Int) (h : n < 0) (h2 : -9223372036854775808 ≤ n) : IntKind.u64.wrap (0 - (n + 18446744073709551616)) = ((n.natAbs : Nat) : Int) := by
  simp [IntKind.wrap, IntKind.bits, IntKind.signed]; omega
theorem i64_of {x y : Int} (h : x = y) (h1 : -9223372036854775808 ≤ y) (h2 : y ≤ 9223372036854775807) : IntKind.i64.wrap x = y := by subst h; exact IntWalk.i64_in _ ⟨h1, h2⟩
end Go.Fw
