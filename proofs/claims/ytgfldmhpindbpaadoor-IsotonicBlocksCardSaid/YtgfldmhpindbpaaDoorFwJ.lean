/- The program logic: nil tests, append of immutable data, cuts of views; what functions on limbs return. -/
import Derived.Test.YtgfldmhpindbpaaDoorFwI
import Derived.Test.YtgfldmhpindbpaaDoorNatC
import Derived.Lib.LazyBuf
namespace Go.Fw
open Go Go.RowKit Go.Nat9

section
variable {P : Program} {Q : Exit → Act → World → Prop} {w0 : Ctx} {σ σ' : List Res} {φ φ' : List (Bool × VP)} {fr : Fr} {ops : Array Oper} {rest : List Oper}
  {d : Nat} {ty : TypeId} {pos : String} {aft : Array Edge}
theorem JL_eqlNil {t t' e : TypeId} {sz by' : Nat} {z : List Value} {x y : Operand} {ad : Option Addr} {n c : Nat} (hs : slOf P t = some (e, sz, by', z)) (hx : Ev fr x (.slice ad n c)) (hy : Ev fr y (.slice none 0 0))
    (k : JL P ops Q w0 σ φ rest (upd fr d (.bool ad.isNone))) : JL P ops Q w0 σ φ (⟨some d, .binOp .eql t x y t', ty, pos, aft, none⟩ :: rest) fr := by
  obtain ⟨i, zv, hu, _⟩ := slOf_spec hs
  exact JL_pure _ (fun w => by simp only [execOp, hx.eq, hy.eq, eqGuard_at_slice, Sem.run_bind, Sem.run_pure, run_eql_slice_nil w t e ad n c hu, Result.andThen_ok]) k
theorem JL_neqNil {t t' e : TypeId} {sz by' : Nat} {z : List Value} {x y : Operand} {ad : Option Addr} {n c : Nat} (hs : slOf P t = some (e, sz, by', z)) (hx : Ev fr x (.slice ad n c)) (hy : Ev fr y (.slice none 0 0))
    (k : JL P ops Q w0 σ φ rest (upd fr d (.bool (!ad.isNone)))) : JL P ops Q w0 σ φ (⟨some d, .binOp .neq t x y t', ty, pos, aft, none⟩ :: rest) fr := by
  obtain ⟨i, zv, hu, _⟩ := slOf_spec hs
  exact JL_pure _ (fun w => by simp only [execOp, hx.eq, hy.eq, eqGuard_at_slice, Sem.run_bind, Sem.run_pure, run_neq_slice_nil (P := P) (w := w) t e ad n c hu, Result.andThen_ok]) k
/-- Limbs behind own limbs. -/
theorem JL_appendUV {t e : TypeId} {by' : Nat} {z : Value} {x y : Operand} {ad ad2 : Option Addr} {n cap m c : Nat} {L M : List Nat} (i : Nat) (hs : slOf P t = some (e, 1, by', [z]))
    (hx : Ev fr x (.slice ad n cap)) (hy : Ev fr y (.slice ad2 m c)) (hσ : Nth σ i (osl ad n cap e 1 (u32s L))) (hr : Reads w0 σ φ ad2 (u32s M)) (hl : M.length = m)
    (h63 : n + m ≤ 9223372036854775807) (hbytes : (n + m) * by' ≤ 140737488355328)
    (k : ∀ ad' cap', n + m ≤ cap' ∧ cap' ≤ 9223372036854775807 → JL P ops Q w0 (updL σ i (osl ad' (n + m) cap' e 1 (u32s (L ++ M)))) φ rest (upd fr d (.slice ad' (n + m) cap'))) :
    JL P ops Q w0 σ φ (⟨some d, .call { callee := .builtin .append, args := #[x, y], argTypes := #[t, t] }, ty, pos, aft, none⟩ :: rest) fr := by
  refine JL_append i hs rfl (by decide) hx hy hσ (by rw [u32s_length, hl, Nat.mul_one]) hr ?_ h63 hbytes ?_
  · intro v hv
    obtain ⟨a, _, rfl⟩ := List.mem_map.1 hv
    rfl
  · intro ad' cap' hc
    rw [u32s_append]
    exact k ad' cap' hc
/-- Limbs behind immutable limbs without spare room. -/
theorem JL_appendVU {t e : TypeId} {by' : Nat} {z : Value} {x y : Operand} {f : Bool} {ad ad2 : Option Addr} {n cap m c : Nat} {L M : List Nat} (hv : (f, vCells ad (u32s L)) ∈ φ) (hr : Reads w0 σ φ ad2 (u32s M)) (hs : slOf P t = some (e, 1, by', [z]))
    (hx : Ev fr x (.slice ad n cap)) (hy : Ev fr y (.slice ad2 m c)) (hxl : L.length = n) (hcap : cap = n) (hl : M.length = m)
    (h63 : n + m ≤ 9223372036854775807) (hbytes : (n + m) * by' ≤ 140737488355328)
    (k : ∀ ad' cap', n + m ≤ cap' ∧ cap' ≤ 9223372036854775807 → JL P ops Q w0 σ ((f, vCells ad' (u32s (L ++ M))) :: φ) rest (upd fr d (.slice ad' (n + m) cap'))) :
    JL P ops Q w0 σ φ (⟨some d, .call { callee := .builtin .append, args := #[x, y], argTypes := #[t, t] }, ty, pos, aft, none⟩ :: rest) fr := by
  refine JL_appendV hs rfl (by decide) hx hy hv (by rw [u32s_length, hxl, Nat.mul_one]) hcap (by rw [u32s_length, hl, Nat.mul_one]) hr h63 hbytes ?_
  intro ad' cap' hc
  rw [u32s_append]
  exact k ad' cap' hc
theorem viewSub {f : Bool} {ad : Option Addr} {L : List Nat} (h : (f, vCells ad (u32s L)) ∈ φ) (m l hh : Nat) (hm : hh ≤ m) (w : World) (s : St w0 w σ φ) : (vCells (subAd ad m l 1) (u32s ((L.take hh).drop l))).holds (Xof w0 σ f) w := by
  have := CellsAt.sub (s.views _ h) m l hh 1 hm
  rw [Nat.mul_one, Nat.mul_one, u32s_take, u32s_drop] at this
  exact this
theorem JL_viewSub {lo : List Oper} {f : Bool} {ad : Option Addr} {L : List Nat} (m l hh : Nat) (h : (f, vCells ad (u32s L)) ∈ φ) (hm : hh ≤ m) (k : JL P ops Q w0 σ ((f, vCells (subAd ad m l 1) (u32s ((L.take hh).drop l))) :: φ) lo fr) : JL P ops Q w0 σ φ lo fr :=
  JL_addView (fun w s => viewSub h m l hh hm w s) k
theorem JC_viewSub {c : Code} {f : Bool} {ad : Option Addr} {L : List Nat} (m l hh : Nat) (h : (f, vCells ad (u32s L)) ∈ φ) (hm : hh ≤ m) (k : JC P c Q w0 σ ((f, vCells (subAd ad m l 1) (u32s ((L.take hh).drop l))) :: φ) fr) : JC P c Q w0 σ φ fr :=
  JC_addView (fun w s => viewSub h m l hh hm w s) k
theorem nilL {w : World} (s : St w0 w σ φ) {f : Bool} {ad : Option Addr} {L : List Nat} (h : (f, vCells ad (u32s L)) ∈ φ) (ha : ad.isNone = true) : L = [] := by
  cases L with
  | nil => rfl
  | cons a L =>
    have h1 : CellsAt (Xof w0 σ f) w ad (u32s (a :: L)) := s.views _ h
    obtain ⟨b, o, hb, _⟩ := h1 0 (.int .u32 (a : Int)) rfl
    subst hb; cases ha
end

theorem quo_nat_u64 (a b : Nat) (h : a < 18446744073709551616) : IntKind.u64.wrap ((a : Int).tdiv (b : Int)) = ((a / b : Nat) : Int) := by
  rw [← Int.ofNat_tdiv]
  have := Nat.div_le_self a b
  generalize a / b = q at this ⊢
  exact IntWalk.u64_in _ (by omega)
theorem quo_nat_u32 (a b : Nat) (h : a < 4294967296) : IntKind.u32.wrap ((a : Int).tdiv (b : Int)) = ((a / b : Nat) : Int) := by
  rw [← Int.ofNat_tdiv]
  have := Nat.div_le_self a b
  generalize a / b = q at this ⊢
  exact IntWalk.u32_in _ (by omega)
theorem u32_nat (a : Nat) (h : a < 4294967296) : IntKind.u32.wrap (a : Int) = (a : Int) := IntWalk.u32_in _ (by omega)
theorem u64_nat (a : Nat) (h : a < 18446744073709551616) : IntKind.u64.wrap (a : Int) = (a : Int) := IntWalk.u64_in _ (by omega)
theorem rem_nat (a b : Nat) : (a : Int).tmod (b : Int) = ((a % b : Nat) : Int) := by rw [← Int.ofNat_tmod]

theorem JL_normQ {P : Program} {w0 : Ctx} {σ : List Res} {φ : List (Bool × VP)} {fr : Fr} {ops : Array Oper} {d : Nat} {F : Value → VP} {l : List Oper} (fr' : Fr) (φ' : List (Bool × VP)) (h1 : fr' = fr) (h3 : φ' = φ)
    (h : JL P ops (StepQ w0 σ φ' fr' d F) w0 σ φ' l fr') : JL P ops (StepQ w0 σ φ fr d F) w0 σ φ l fr := by
  subst h1 h3; exact h

section
variable {P : Program} {Q : Exit → Act → World → Prop} {w0 : Ctx} {σ σ' : List Res} {φ φ' : List (Bool × VP)} {fr : Fr} {ops : Array Oper} {rest : List Oper}
  {d : Nat} {ty : TypeId} {pos : String} {aft : Array Edge}
theorem JL_build1U {t e : TypeId} {by' : Nat} {z : Value} {x : Operand} (n : Nat) (hs : slOf P t = some (e, 1, by', [z])) (hx : Ev fr x (.int .u32 (n : Int)))
    (k : ∀ g, JL P ops Q w0 (σ ++ [osl (some ⟨g, 0, none⟩) 1 1 e 1 (u32s [n])]) φ rest (upd fr d (.slice (some ⟨g, 0, none⟩) 1 1))) :
    JL P ops Q w0 σ φ (⟨some d, .buildSlice t 1 #[(0, x)], ty, pos, aft, none⟩ :: rest) fr := JL_build1 hs hx rfl k
theorem Nth_last {α : Type} : ∀ (l : List α) (a : α), Nth (l ++ [a]) l.length a
  | [], _ => rfl
  | _ :: l, a => Nth_last l a
theorem JL_giveLast {l : List Oper} {ad : Option Addr} {n cap sz : Nat} {E : TypeId} {xs : List Value} (k : JL P ops Q w0 σ ((true, vCells ad xs) :: φ) l fr) : JL P ops Q w0 (σ ++ [osl ad n cap E sz xs]) φ l fr := by
  refine JL_give σ.length (Nth_last σ _) ?_
  rw [List.eraseIdx_append_of_length_le (Nat.le_refl _), Nat.sub_self]
  simpa using k
end

/-! ## What functions on limbs return, and what they are given -/
/-- a slice of the canonical limbs of x -/
def LS (x : Nat) (v : Value) (φo : List VP) : Prop := ∃ (ad : Option Addr) (cap : Nat), v = .slice ad (limbsOf x).length cap ∧ (limbsOf x).length ≤ cap ∧ cap ≤ 9223372036854775807 ∧ φo = [vCells ad (u32s (limbsOf x))]
/-- a natural in canonical limbs -/
def LN (x : Nat) (v : Value) (φo : List VP) : Prop := ∃ (ad : Option Addr) (cap : Nat), v = .agg #[.slice ad (limbsOf x).length cap] ∧ (limbsOf x).length ≤ cap ∧ cap ≤ 9223372036854775807 ∧ φo = [vCells ad (u32s (limbsOf x))]
/-- a copy of limbs -/
def LC (L : List Nat) (v : Value) (φo : List VP) : Prop := ∃ (ad : Option Addr) (cap : Nat), v = .slice ad L.length cap ∧ L.length ≤ cap ∧ cap ≤ 9223372036854775807 ∧ φo = [vCells ad (u32s L)]
/-- n limbs L of the value x, at most K of them -/
structure NIn (n : Nat) (L : List Nat) (x K : Nat) : Prop where
  len : L.length = n
  u32 : U32 L
  val : val L = x
  le : n ≤ K
theorem U32.limbsOf (x : Nat) : U32 (limbsOf x) := U32.ofDig (dig_limbsOf x)
theorem U32.snoc {L : List Nat} (h : U32 L) {a : Nat} (ha : a < 4294967296) : U32 (L ++ [a]) := fun b hb => by
  rcases List.mem_append.1 hb with hb | hb
  · exact h b hb
  · rw [List.mem_singleton.1 hb]; exact ha
theorem NIn.of {x K : Nat} (h : (limbsOf x).length ≤ K) : NIn (limbsOf x).length (limbsOf x) x K := ⟨rfl, U32.limbsOf x, val_limbsOf x, h⟩
theorem NIn.nil {K : Nat} : NIn 0 [] 0 K := ⟨rfl, fun _ h => (List.not_mem_nil h).elim, rfl, Nat.zero_le _⟩
theorem NIn.mono {n : Nat} {L : List Nat} {x K K' : Nat} (h : NIn n L x K) (hk : K ≤ K') : NIn n L x K' := ⟨h.len, h.u32, h.val, Nat.le_trans h.le hk⟩
theorem NIn.sz {n : Nat} {L : List Nat} {x K : Nat} (h : NIn n L x K) : (limbsOf x).length ≤ n + 1 := by
  rw [← h.val, ← h.len]; exact len_limbsOf_val h.u32
theorem NIn.getD {n : Nat} {L : List Nat} {x K : Nat} (h : NIn n L x K) (k : Nat) : L.getD k 0 < 4294967296 := h.u32.getD k
/-- n digits L of the value x -/
structure DIn (n : Nat) (L : List Nat) (x : Nat) : Prop where
  len : L.length = n
  dig : Dig L
  val : Nat9.val L = x
theorem DIn.of {x : Nat} : DIn (Nat9.limbsOf x).length (Nat9.limbsOf x) x := ⟨rfl, dig_limbsOf x, val_limbsOf x⟩
theorem val_one (d : Nat) : Nat9.val [d] = d := by simp [Nat9.val]
theorem DIn.one {d : Nat} (h : d < 1000000000) : DIn 1 [d] d := ⟨rfl, Dig.cons h Dig.nil, val_one d⟩
/-- two slices of limbs -/
def LS2 (x y : Nat) (v : Value) (φo : List VP) : Prop := ∃ (ad : Option Addr) (cap : Nat) (ad' : Option Addr) (cap' : Nat), v = .tuple #[.slice ad (limbsOf x).length cap, .slice ad' (limbsOf y).length cap'] ∧
  (limbsOf x).length ≤ cap ∧ cap ≤ 9223372036854775807 ∧ (limbsOf y).length ≤ cap' ∧ cap' ≤ 9223372036854775807 ∧ φo = [vCells ad (u32s (limbsOf x)), vCells ad' (u32s (limbsOf y))]
/-- a slice of limbs and a limb -/
def LSr (x y : Nat) (v : Value) (φo : List VP) : Prop := ∃ (ad : Option Addr) (cap : Nat), v = .tuple #[.slice ad (limbsOf x).length cap, .int .u32 (y : Int)] ∧ (limbsOf x).length ≤ cap ∧ cap ≤ 9223372036854775807 ∧ φo = [vCells ad (u32s (limbsOf x))]
/-- a natural and an error -/
def LNE (x : Nat) (e : Int) (v : Value) (φo : List VP) : Prop := ∃ (ad : Option Addr) (cap : Nat), v = .tuple #[.agg #[.slice ad (limbsOf x).length cap], .int .i64 e] ∧ (limbsOf x).length ≤ cap ∧ cap ≤ 9223372036854775807 ∧ φo = [vCells ad (u32s (limbsOf x))]
/-- two naturals and an error -/
def LN2E (x y : Nat) (e : Int) (v : Value) (φo : List VP) : Prop := ∃ (ad : Option Addr) (cap : Nat) (ad' : Option Addr) (cap' : Nat), v = .tuple #[.agg #[.slice ad (limbsOf x).length cap], .agg #[.slice ad' (limbsOf y).length cap'], .int .i64 e] ∧
  (limbsOf x).length ≤ cap ∧ cap ≤ 9223372036854775807 ∧ (limbsOf y).length ≤ cap' ∧ cap' ≤ 9223372036854775807 ∧ φo = [vCells ad (u32s (limbsOf x)), vCells ad' (u32s (limbsOf y))]
theorem LS.nil : LS 0 (.slice none 0 0) [vCells none (u32s [])] := ⟨none, 0, by rw [limbsOf_zero]; rfl, by rw [limbsOf_zero]; exact Nat.le_refl _, by omega, by rw [limbsOf_zero]⟩
theorem limbs_pos {x : Nat} (h : 0 < (limbsOf x).length) : 0 < x := by
  rcases Nat.eq_zero_or_pos x with h0 | h0
  · subst h0; rw [limbsOf_zero] at h; cases h
  · exact h0
theorem limbs_zero {x : Nat} (h : (limbsOf x).length = 0) : x = 0 := limbsOf_eq_nil.1 (List.eq_nil_of_length_eq_zero h)
/-! Short names for the printed walks. -/
theorem mm0 {α : Type} {a : α} {l : List α} : a ∈ a :: l := List.mem_cons_self
theorem mmS {α : Type} {a b : α} {l : List α} (h : a ∈ l) : a ∈ b :: l := List.mem_cons_of_mem _ h
theorem ss0 {α : Type} {l : List α} : ∀ p ∈ l, p ∈ l := subset_refl
theorem ssS {α : Type} {a : α} {b l : List α} (h : ∀ p ∈ b, p ∈ l) : ∀ p ∈ b, p ∈ a :: l := subset_tail h
end Go.Fw
