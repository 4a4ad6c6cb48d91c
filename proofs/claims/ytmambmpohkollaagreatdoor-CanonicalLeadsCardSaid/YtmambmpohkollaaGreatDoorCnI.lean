/- Chapter 16: what the visit of all orders keeps; numbers that wrap. Plain. -/
import Derived.Test.YtmambmpohkollaaGreatDoorCnH
namespace Go.Fw.Cn
open Go Go.RowKit Go.Fw
/-- A number in the memory of 64 bits. -/
def wr64 (n : Nat) : Int := IntKind.i64.wrap (n : Int)
theorem wr64_add (n m : Nat) : IntKind.i64.wrap (wr64 n + (m : Int)) = wr64 (n + m) := by
  have h : ∀ x : Int, IntKind.i64.wrap x = if x % 18446744073709551616 ≥ 9223372036854775808 then x % 18446744073709551616 - 18446744073709551616 else x % 18446744073709551616 := fun x => by
    unfold IntKind.wrap
    rw [show IntKind.i64.bits = 64 from rfl, show IntKind.i64.signed = true from rfl, show (64 - 1 : Nat) = 63 from rfl, show (2 : Int) ^ 64 = 18446744073709551616 by decide, show (2 : Int) ^ 63 = 9223372036854775808 by decide]
    simp only [Bool.true_and, decide_eq_true_eq]
  unfold wr64
  rw [h, h, h, Int.natCast_add]
  split <;> split <;> split <;> omega
theorem wr64_small {n : Nat} (h : n < 9223372036854775808) : wr64 n = n := by
  unfold wr64
  exact IntWalk.i64_in _ (by omega)
theorem zs_short (p : List Nat) (v : Nat) : (i64s (zs (p ++ [v]))).take ((zs p).length * 1) = i64s (zs p) := by
  rw [Nat.mul_one, zs_length, zs_snoc]
  unfold i64s
  rw [List.map_append, List.take_append_of_le_length (by rw [List.length_map, zs_length]; exact Nat.le_refl _), List.take_of_length_le (by rw [List.length_map, zs_length]; exact Nat.le_refl _)]
theorem Pre.lt_of {n k : Nat} {p : List Nat} (h : Pre n k p) : ∀ v ∈ p, v < n := h.lt
/-- The rows of what are the columns. -/
theorem colR_len {D : List Rw} {M : List (List Int)} {w : Nat} {p : List Nat} (h : Rls D = colP M w p) {r : Rw} (hr : r ∈ D) : r.L.length = p.length := by
  have : r.L ∈ Rls D := List.mem_map.2 ⟨r, hr, rfl⟩
  rw [h] at this
  exact colP_all this
theorem dfs_zero (n : Nat) (p : List Nat) : dfs n 0 p = [p] := rfl
theorem sy_yes {A Mr : List Rw} {w n : Nat} {p o : List Nat} {ok : Bool} (hA : Rls A = colP (Rls Mr) w (List.range Mr.length)) (h : mt (colP (Rls Mr) w p) (colP (Rls Mr) w (List.range Mr.length)) w w = if ok = true then some o else none) (hk : ok = true) : syS (Rls Mr) w n p = (n + facA (Rls A) A.length, true) := by
  subst hk
  unfold syS
  rw [Rls_len, h, if_pos rfl, if_pos (show (some o).isSome = true from rfl), ← hA, Rls_len]
theorem sy_no {Mr : List Rw} {w n : Nat} {p o : List Nat} {ok : Bool} (h : mt (colP (Rls Mr) w p) (colP (Rls Mr) w (List.range Mr.length)) w w = if ok = true then some o else none) (hk : ok = false) : syS (Rls Mr) w n p = (n, true) := by
  subst hk
  unfold syS
  rw [Rls_len, h, if_neg Bool.false_ne_true, if_neg (show ¬ (none : Option (List Nat)).isSome = true from Bool.false_ne_true)]
/-! ## The list of a matrix, made row by row -/
theorem fl_succ : ∀ (r : Nat) (D : List (List Int)), fl (r + 1) D = fl r D ++ D.map fun c => c.getD r 0
  | 0, D => by
    rw [fl, fl, fl, List.append_nil, List.nil_append]
    unfold hd
    exact List.map_congr_left fun c _ => by cases c <;> rfl
  | r + 1, D => by
    rw [fl, fl_succ r (tl D), fl, List.append_assoc]
    congr 2
    unfold tl
    rw [List.map_map]
    exact List.map_congr_left fun c _ => by cases c <;> simp
/-- The first r rows and c numbers of the next one. -/
def flI (D : List (List Int)) (r c : Nat) : List Int := fl r D ++ (D.take c).map fun x => x.getD r 0
theorem flI_zero (D : List (List Int)) (r : Nat) : flI D r 0 = fl r D := by unfold flI; rw [List.take_zero, List.map_nil, List.append_nil]
theorem flI_all {D : List (List Int)} {r c : Nat} (h : c = D.length) : flI D r c = fl (r + 1) D := by unfold flI; rw [h, List.take_length, fl_succ]
theorem flI_step {D : List (List Int)} {r c : Nat} (h : c < D.length) : flI D r (c + 1) = flI D r c ++ [(D.getD c []).getD r 0] := by
  unfold flI; rw [take_succ_getD h, List.map_append, List.append_assoc]; rfl
theorem fl_len : ∀ (r : Nat) (D : List (List Int)), (fl r D).length = r * D.length
  | 0, _ => by rw [fl, Nat.zero_mul]; rfl
  | r + 1, D => by rw [fl, List.length_append, hd_len, fl_len r, tl_len, Nat.succ_mul, Nat.add_comm]
theorem flI_len {D : List (List Int)} {r c : Nat} (h : c ≤ D.length) : (flI D r c).length = r * D.length + c := by
  unfold flI; rw [List.length_append, fl_len, List.length_map, List.length_take, Nat.min_eq_left h]
theorem cd_yes {M : List (List Int)} {w : Nat} {B : List Int} {p : List Nat} (h : B = [] ∨ cmpLL (flP M w p) B < 0) : cdS M w B p = (flP M w p, true) := by unfold cdS; rw [if_pos h]
theorem cd_no {M : List (List Int)} {w : Nat} {B : List Int} {p : List Nat} (h1 : B ≠ []) (h : ¬ cmpLL (flP M w p) B < 0) : cdS M w B p = (B, true) := by unfold cdS; rw [if_neg (fun c => c.elim h1 h)]
/-! ## The map that has been found -/
def m1 (o : Option (List Nat × List Nat)) : List Nat := (o.map (·.1)).getD []
def m2 (o : Option (List Nat × List Nat)) : List Nat := (o.map (·.2)).getD []
def mErr (o : Option (List Nat × List Nat)) : Int := if o.isNone then 7 else 0
theorem mp_yes {A Mr : List Rw} {X : List (List Int)} {w : Nat} {p q : List Nat} {ok : Bool} {o : Option (List Nat × List Nat)} (hA : Rls A = colP X w (List.range X.length)) (h : mt (colP (Rls Mr) w p) (Rls A) w w = if ok = true then some q else none) (hk : ok = true) : mpS X (Rls Mr) w o p = (some (p, q), !ok) := by
  subst hk
  unfold mpS
  rw [← hA, h, if_pos rfl]; rfl
theorem mp_no {A Mr : List Rw} {X : List (List Int)} {w : Nat} {p q : List Nat} {ok : Bool} {o : Option (List Nat × List Nat)} (hA : Rls A = colP X w (List.range X.length)) (h : mt (colP (Rls Mr) w p) (Rls A) w w = if ok = true then some q else none) (hk : ok = false) : mpS X (Rls Mr) w o p = (o, !ok) := by
  subst hk
  unfold mpS
  rw [← hA, h, if_neg Bool.false_ne_true]; rfl
end Go.Fw.Cn
