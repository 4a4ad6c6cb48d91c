/- Chapter 38: the first error; lists of spans meet. Plain. -/
import Derived.Test.YtgnljjdcbfijnaaDoorStdC
namespace Go.Fw
open Go Go.RowKit Go.Nat9

def firstNZ : List Int → Int
  | [] => 0
  | x :: l => if x ≠ 0 then x else firstNZ l
theorem firstNZ_miss : ∀ {L : List Int}, (∀ j, j < L.length → L.getD j 0 = 0) → firstNZ L = 0
  | [], _ => rfl
  | x :: l, h => by
    have h0 : x = 0 := h 0 (by simp)
    rw [firstNZ, if_neg (fun e => e h0)]
    exact firstNZ_miss fun j hj => h (j + 1) (by rw [List.length_cons]; omega)
theorem firstNZ_hit : ∀ {L : List Int} {k : Nat}, k < L.length → (∀ j, j < k → L.getD j 0 = 0) → L.getD k 0 ≠ 0 → firstNZ L = L.getD k 0
  | [], _, hk, _, _ => absurd hk (Nat.not_lt_zero _)
  | x :: l, 0, _, _, h => if_pos h
  | x :: l, k + 1, hk, h, h2 => by
    have h0 : x = 0 := h 0 (by omega)
    rw [firstNZ, if_neg (fun e => e h0)]
    exact firstNZ_hit (k := k) (by rw [List.length_cons] at hk; omega) (fun j hj => h (j + 1) (by omega)) h2
def meet1 (a b : Rat × Rat) : List (Rat × Rat) := if (if a.1 < b.1 then b.1 else a.1) ≤ (if b.2 < a.2 then b.2 else a.2) then [((if a.1 < b.1 then b.1 else a.1), (if b.2 < a.2 then b.2 else a.2))] else []
def meetI (S : List (Rat × Rat)) (a : Rat × Rat) (B : List (Rat × Rat)) : Nat → List (Rat × Rat)
  | 0 => S
  | j + 1 => meetI S a B j ++ meet1 a (B.getD j (0, 0))
def meetL (A B : List (Rat × Rat)) : Nat → List (Rat × Rat)
  | 0 => []
  | i + 1 => meetI (meetL A B i) (A.getD i (0, 0)) B B.length
theorem meet1_yes {a b : Rat × Rat} {x y : Rat} (h1 : (if a.1 < b.1 then b.1 else a.1) = x) (h2 : (if b.2 < a.2 then b.2 else a.2) = y) (h3 : x ≤ y) : meet1 a b = [(x, y)] := by
  subst h1; subst h2; exact if_pos h3
theorem meet1_no {a b : Rat × Rat} {x y : Rat} (h1 : (if a.1 < b.1 then b.1 else a.1) = x) (h2 : (if b.2 < a.2 then b.2 else a.2) = y) (h3 : ¬ x ≤ y) : meet1 a b = [] := by
  subst h1; subst h2; exact if_neg h3
theorem meet1_len (a b : Rat × Rat) : (meet1 a b).length ≤ 1 := by
  by_cases h : (if a.1 < b.1 then b.1 else a.1) ≤ (if b.2 < a.2 then b.2 else a.2)
  · rw [meet1_yes rfl rfl h]; exact Nat.le_refl _
  · rw [meet1_no rfl rfl h]; exact Nat.zero_le _
theorem meetI_len (S : List (Rat × Rat)) (a : Rat × Rat) (B : List (Rat × Rat)) : ∀ j, (meetI S a B j).length ≤ S.length + j
  | 0 => Nat.le_refl _
  | j + 1 => by
    have h := meetI_len S a B j
    have h2 := meet1_len a (B.getD j (0, 0))
    rw [meetI, List.length_append]
    omega
theorem meetL_len (A B : List (Rat × Rat)) : ∀ i, (meetL A B i).length ≤ i * B.length
  | 0 => Nat.zero_le _
  | i + 1 => by
    have h := meetL_len A B i
    have h2 := meetI_len (meetL A B i) (A.getD i (0, 0)) B B.length
    rw [meetL, Nat.succ_mul]
    omega
theorem meetI_add {S : List (Rat × Rat)} {l m r : List Se} {i j : Nat} {zl zh : Fe} (h : r.map Se.qq = meetI S ((l.map Se.qq).getD i (0, 0)) (m.map Se.qq) j)
    (h1 : (if (l.getD i dS).lo.q < (m.getD j dS).lo.q then (m.getD j dS).lo.q else (l.getD i dS).lo.q) = zl.q) (h2 : (if (m.getD j dS).hi.q < (l.getD i dS).hi.q then (m.getD j dS).hi.q else (l.getD i dS).hi.q) = zh.q) (h3 : zl.q ≤ zh.q) :
    (r ++ [(⟨zl, zh⟩ : Se)]).map Se.qq = meetI S ((l.map Se.qq).getD i (0, 0)) (m.map Se.qq) (j + 1) := by
  rw [meetI, ← h, List.map_append, qq_getD, qq_getD]
  rw [meet1_yes (a := (l.getD i dS).qq) (b := (m.getD j dS).qq) h1 h2 h3]
  rfl
theorem meetI_keep {S : List (Rat × Rat)} {l m r : List Se} {i j : Nat} {zl zh : Fe} (h : r.map Se.qq = meetI S ((l.map Se.qq).getD i (0, 0)) (m.map Se.qq) j)
    (h1 : (if (l.getD i dS).lo.q < (m.getD j dS).lo.q then (m.getD j dS).lo.q else (l.getD i dS).lo.q) = zl.q) (h2 : (if (m.getD j dS).hi.q < (l.getD i dS).hi.q then (m.getD j dS).hi.q else (l.getD i dS).hi.q) = zh.q) (h3 : ¬ zl.q ≤ zh.q) :
    r.map Se.qq = meetI S ((l.map Se.qq).getD i (0, 0)) (m.map Se.qq) (j + 1) := by
  rw [meetI, ← h, qq_getD, qq_getD]
  rw [meet1_no (a := (l.getD i dS).qq) (b := (m.getD j dS).qq) h1 h2 h3, List.append_nil]
end Go.Fw
