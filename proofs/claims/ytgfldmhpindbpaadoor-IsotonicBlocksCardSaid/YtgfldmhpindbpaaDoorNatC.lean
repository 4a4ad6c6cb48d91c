/- Plain facts for long division and for the values of limbs. No program here. -/
import Derived.Test.YtgfldmhpindbpaaDoorNatB
namespace Go.Nat9

theorem Bpos (k : Nat) : 0 < 1000000000 ^ k := Nat.pow_pos (by decide)
theorem val_drop_div {L : List Nat} (h : Dig L) (j : Nat) : val (L.drop j) = val L / 1000000000 ^ j := by
  by_cases hj : j ≤ L.length
  · have h1 := val_lt (h.take j)
    rw [List.length_take, Nat.min_eq_left hj] at h1
    rw [val_split L j hj, Nat.add_comm, Nat.mul_add_div (Bpos j), Nat.div_eq_of_lt h1]; rfl
  · rw [List.drop_of_length_le (by omega)]
    have h1 := val_lt h
    have h2 : 1000000000 ^ L.length ≤ 1000000000 ^ j := Nat.pow_le_pow_right (by decide) (by omega)
    rw [Nat.div_eq_of_lt (by omega)]; rfl
theorem top1 {L : List Nat} (h : Dig L) {k : Nat} (hk : L.length = k + 1) : L.getD k 0 = val L / 1000000000 ^ k := by
  rw [← val_drop_div h, drop_getD_cons L k (by omega), List.drop_of_length_le (by omega)]; simp [val]
theorem top2 {L : List Nat} (h : Dig L) {k : Nat} (hk : L.length = k + 2) : L.getD (k + 1) 0 * 1000000000 + L.getD k 0 = val L / 1000000000 ^ k := by
  rw [← val_drop_div h, drop_getD_cons L k (by omega), drop_getD_cons L (k + 1) (by omega), List.drop_of_length_le (by omega)]; simp [val]; omega
theorem top1' {x k i : Nat} (hi : i = k) (hk : (limbsOf x).length = k + 1) : (limbsOf x).getD i 0 = x / 1000000000 ^ k := by
  subst hi; rw [top1 (dig_limbsOf x) hk, val_limbsOf]
theorem top2' {x k i j : Nat} (hi : i = k + 1) (hj : j = k) (hk : (limbsOf x).length = k + 2) : (limbsOf x).getD i 0 * 1000000000 + (limbsOf x).getD j 0 = x / 1000000000 ^ k := by
  subst hi hj; rw [top2 (dig_limbsOf x) hk, val_limbsOf]
theorem top_lt {P V : Nat} (hV : 0 < V) (hP : P < V * 1000000000) : P / 1000000000 ^ ((limbsOf V).length - 1) < 18446744073709551616 := by
  have h1 := lt_of_limbsOf_len (n := V) (Nat.le_refl _)
  have h2 := limbsOf_len_pos hV
  have h3 : 1000000000 ^ (limbsOf V).length = 1000000000 ^ ((limbsOf V).length - 1) * 1000000000 := by rw [← Nat.pow_succ]; congr 1; omega
  rw [h3] at h1
  have h4 : P / 1000000000 ^ ((limbsOf V).length - 1) < 1000000000 * 1000000000 := by
    rw [Nat.div_lt_iff_lt_mul (Bpos _)]
    generalize 1000000000 ^ ((limbsOf V).length - 1) = b at h1 ⊢
    omega
  omega
/-- The guess is not too small. -/
theorem guess_ge {P V top vt k : Nat} (hV : 0 < V) (hP : P < V * 1000000000) (ht : top = P / 1000000000 ^ k) (hv : vt = V / 1000000000 ^ k) (hvt : 0 < vt) : P / V ≤ min (top / vt) 999999999 := by
  have h1 : P / V < 1000000000 := by rw [Nat.div_lt_iff_lt_mul hV, Nat.mul_comm]; exact hP
  have h2 : P / V ≤ top / vt := by
    rw [Nat.le_div_iff_mul_le hvt, ht, Nat.le_div_iff_mul_le (Bpos k), hv]
    calc P / V * (V / 1000000000 ^ k) * 1000000000 ^ k = P / V * (V / 1000000000 ^ k * 1000000000 ^ k) := Nat.mul_assoc _ _ _
      _ ≤ P / V * V := Nat.mul_le_mul_left _ (Nat.div_mul_le_self _ _)
      _ ≤ P := Nat.div_mul_le_self _ _
  omega
/-- What one turn of the long division keeps. -/
structure DivInv (N V lq : Nat) (U q : List Nat) (j : Nat) : Prop where
  du : Dig U
  dq : Dig q
  lq : q.length = lq
  zero : ∀ i, i < j → q.getD i 0 = 0
  eq : N = V * (1000000000 ^ j * val (q.drop j)) + val U
  lt : val U < V * 1000000000 ^ j
theorem DivInv.part_lt {N V lq : Nat} {U q : List Nat} {j : Nat} (h : DivInv N V lq U q (j + 1)) : val (U.drop j) < V * 1000000000 := by
  rw [val_drop_div h.du, Nat.div_lt_iff_lt_mul (Bpos j), Nat.mul_assoc, Nat.mul_comm 1000000000, ← Nat.pow_succ]; exact h.lt
theorem DivInv.skip {N V lq : Nat} {U q : List Nat} {j : Nat} (h : DivInv N V lq U q (j + 1)) (hj : j < lq) (hP : val (U.drop j) < V) : DivInv N V lq U q j where
  du := h.du
  dq := h.dq
  lq := h.lq
  zero := fun i hi => h.zero i (by omega)
  eq := by
    have h0 : j < q.length := by rw [h.lq]; exact hj
    rw [val_drop q j h0, h.zero j (by omega), Nat.zero_add, ← Nat.mul_assoc (1000000000 ^ j), ← Nat.pow_succ]; exact h.eq
  lt := by rw [val_drop_div h.du, Nat.div_lt_iff_lt_mul (Bpos j)] at hP; exact hP
theorem DivInv.put {N V lq : Nat} {U q : List Nat} {j g : Nat} (h : DivInv N V lq U q (j + 1)) (hj : j < lq) (hju : j ≤ U.length) (hg : g = val (U.drop j) / V) (hV : 0 < V) :
    DivInv N V lq (U.take j ++ limbsOf (val (U.drop j) - V * g)) (q.set j g) j := by
  have hg9 : g < 1000000000 := by rw [hg, Nat.div_lt_iff_lt_mul hV, Nat.mul_comm]; exact h.part_lt
  have h0 : j < q.length := by rw [h.lq]; exact hj
  have hval : val (U.take j ++ limbsOf (val (U.drop j) - V * g)) = val (U.take j) + 1000000000 ^ j * (val (U.drop j) - V * g) := by
    rw [val_append, val_limbsOf, List.length_take, Nat.min_eq_left hju]
  have hle : V * g ≤ val (U.drop j) := by rw [hg]; exact Nat.mul_div_le _ _
  have hrem : val (U.drop j) - V * g < V := by
    have := Nat.mod_lt (val (U.drop j)) hV
    have e := Nat.div_add_mod (val (U.drop j)) V
    rw [← hg] at e; omega
  have hlow := val_lt (h.du.take j)
  rw [List.length_take, Nat.min_eq_left hju] at hlow
  refine ⟨(h.du.take j).append (dig_limbsOf _), h.dq.set j g hg9, by rw [List.length_set]; exact h.lq, ?_, ?_, ?_⟩
  · intro i hi; rw [getD_set_ne _ _ _ _ (by omega)]; exact h.zero i (by omega)
  · rw [hval, h.eq, val_drop (q.set j g) j (by rw [List.length_set]; exact h0)]
    have e2 := drop_set_same q j g
    have e3 : (q.set j g).getD j 0 = g := by simp [List.getD_eq_getElem?_getD, h0]
    rw [e2, e3]
    have e4 : val U = val (U.take j) + 1000000000 ^ j * val (U.drop j) := val_split U j hju
    have e5 : 1000000000 ^ j * val (U.drop j) = 1000000000 ^ j * (V * g) + 1000000000 ^ j * (val (U.drop j) - V * g) := by
      rw [← Nat.mul_add, Nat.add_sub_cancel' hle]
    have e6 : V * (1000000000 ^ j * (g + 1000000000 * val (q.drop (j + 1)))) = 1000000000 ^ j * (V * g) + V * (1000000000 ^ (j + 1) * val (q.drop (j + 1))) := by
      rw [Nat.mul_add, Nat.mul_add, Nat.mul_left_comm V, Nat.pow_succ, Nat.mul_assoc (1000000000 ^ j)]
    omega
  · rw [hval]
    have e7 : 1000000000 ^ j * (val (U.drop j) - V * g + 1) ≤ 1000000000 ^ j * V := Nat.mul_le_mul_left _ hrem
    rw [Nat.mul_add, Nat.mul_one] at e7
    rw [Nat.mul_comm V (1000000000 ^ j)]; omega
theorem DivInv.start {N V lq lv : Nat} {U : List Nat} (hd : Dig U) (hN : N = val U) (hl : U.length + 1 = lq + lv) (hV : 1000000000 ^ lv ≤ V * 1000000000) : DivInv N V lq U (List.replicate lq 0) lq where
  du := hd
  dq := Dig.replicate _
  lq := List.length_replicate
  zero := fun i _ => by simp [List.getD_eq_getElem?_getD, List.getElem?_replicate]; split <;> rfl
  eq := by rw [List.drop_of_length_le (by simp)]; simp [val, hN]
  lt := by
    have h1 := val_lt hd
    have h2 : 1000000000 ^ U.length * 1000000000 = 1000000000 ^ lq * 1000000000 ^ lv := by rw [← Nat.pow_add, ← hl, Nat.pow_succ]
    have h3 : 1000000000 ^ lq * 1000000000 ^ lv ≤ 1000000000 ^ lq * (V * 1000000000) := Nat.mul_le_mul_left _ hV
    have h4 : 1000000000 ^ U.length * 1000000000 ≤ (V * 1000000000 ^ lq) * 1000000000 := by
      rw [h2]; refine Nat.le_trans h3 (Nat.le_of_eq ?_)
      rw [Nat.mul_comm V, Nat.mul_assoc V, Nat.mul_left_comm, Nat.mul_left_comm V, Nat.mul_comm V, ← Nat.mul_assoc]; ac_rfl
    have h5 := Nat.le_of_mul_le_mul_right h4 (by decide)
    omega
theorem DivInv.done {N V lq : Nat} {U q : List Nat} (h : DivInv N V lq U q 0) : val q = N / V ∧ val U = N % V := by
  have e := h.eq
  rw [List.drop_zero, Nat.pow_zero, Nat.one_mul] at e
  have l := h.lt
  rw [Nat.pow_zero, Nat.mul_one] at l
  exact short_div e l
theorem pow_len_le (n : Nat) (h : 0 < n) : 1000000000 ^ (limbsOf n).length ≤ n * 1000000000 := by
  have h1 := limbsOf_len_pos h
  have h2 : ¬ n < 1000000000 ^ ((limbsOf n).length - 1) := fun hc => by have := limbsOf_len_of_lt hc; omega
  have h3 : 1000000000 ^ (limbsOf n).length = 1000000000 ^ ((limbsOf n).length - 1) * 1000000000 := by rw [← Nat.pow_succ]; congr 1; omega
  rw [h3]; exact Nat.mul_le_mul_right _ (by omega)
theorem len_limbsOf_mul (n m : Nat) : (limbsOf (n * m)).length ≤ (limbsOf n).length + (limbsOf m).length := by
  apply limbsOf_len_of_lt
  rw [Nat.pow_add]
  have h1 := lt_of_limbsOf_len (n := n) (Nat.le_refl _)
  have h2 := lt_of_limbsOf_len (n := m) (Nat.le_refl _)
  exact Nat.mul_lt_mul'' h1 h2
theorem len_limbsOf_add (n m : Nat) : (limbsOf (n + m)).length ≤ max (limbsOf n).length (limbsOf m).length + 1 := by
  apply limbsOf_len_of_lt
  have h1 := lt_of_limbsOf_len (n := n) (k := max (limbsOf n).length (limbsOf m).length) (by omega)
  have h2 := lt_of_limbsOf_len (n := m) (k := max (limbsOf n).length (limbsOf m).length) (by omega)
  rw [Nat.pow_succ]; omega
theorem len_limbsOf_le {n m : Nat} (h : n ≤ m) : (limbsOf n).length ≤ (limbsOf m).length := length_limbsOf_le h
theorem val_lt32 : ∀ {L : List Nat}, (∀ a ∈ L, a < 4294967296) → val L + 5 ≤ 5 * 1000000000 ^ L.length
  | [], _ => by simp [val]
  | a :: L, h => by
    have h1 := val_lt32 (L := L) (fun b hb => h b (List.mem_cons_of_mem _ hb))
    have h2 := h a List.mem_cons_self
    simp only [val, List.length_cons, Nat.pow_succ]
    have := Bpos L.length
    omega
theorem len_limbsOf_val {L : List Nat} (h : ∀ a ∈ L, a < 4294967296) : (limbsOf (val L)).length ≤ L.length + 1 := by
  apply limbsOf_len_of_lt
  have := val_lt32 h
  rw [Nat.pow_succ]
  have := Bpos L.length
  omega
theorem len_limbsOf_dig {L : List Nat} (h : Dig L) : (limbsOf (val L)).length ≤ L.length := limbsOf_len_of_lt (val_lt h)
theorem part_len {P V : Nat} (h : P < V * 1000000000) : (limbsOf P).length ≤ (limbsOf V).length + 1 := limbsOf_len_of_lt (by
  rw [Nat.pow_succ]
  have h1 := lt_of_limbsOf_len (n := V) (Nat.le_refl _)
  exact Nat.lt_of_lt_of_le h (Nat.mul_le_mul_right _ (Nat.le_of_lt h1)))
theorem mul_div_scale {n m s : Nat} (hs : 0 < s) : (n * s) / (m * s) = n / m := Nat.mul_div_mul_right _ _ hs
theorem mul_mod_scale {n m s : Nat} (hs : 0 < s) : (n * s) % (m * s) / s = n % m := by rw [Nat.mul_mod_mul_right, Nat.mul_div_cancel _ hs]
theorem scale_pos {t : Nat} (ht : t < 1000000000) : 0 < 1000000000 / (t + 1) ∧ 1000000000 / (t + 1) < 4294967296 := by
  constructor
  · exact Nat.div_pos (by omega) (by omega)
  · have := Nat.div_le_self 1000000000 (t + 1); omega
theorem scale_dig {t : Nat} (h0 : 0 < t) : 1000000000 / (t + 1) < 1000000000 := Nat.div_lt_self (by decide) (by omega)
theorem u_drop_min (U : List Nat) (j : Nat) : U.drop (min j U.length) = U.drop j := by
  by_cases h : j ≤ U.length
  · rw [Nat.min_eq_left h]
  · rw [Nat.min_eq_right (by omega), List.drop_of_length_le (Nat.le_refl _), List.drop_of_length_le (by omega)]
theorem minus_val {A C out : List Nat} {k c : Nat} (hk : out.length = k) (hd : Dig out) (hl : k = A.length) (hC : val C ≤ val A) (hCl : C.length ≤ A.length) (h : val (A.take k) + 1000000000 ^ k * c = val (C.take k) + val out) :
    val out = val A - val C := by
  rw [val_take_all A k (by omega), val_take_all C k (by omega)] at h
  have h1 := val_lt hd
  rw [hk] at h1
  rcases Nat.eq_zero_or_pos c with h0 | h0
  · subst h0; omega
  · have : 1000000000 ^ k * 1 ≤ 1000000000 ^ k * c := Nat.mul_le_mul_left _ h0
    omega
theorem getD_replicate (n l : Nat) : (List.replicate n 0).getD l 0 = 0 := by
  rw [List.getD_eq_getElem?_getD, List.getElem?_replicate]; split <;> rfl
theorem short_val {A out : List Nat} {k x d r : Nat} (hk : k = 0) (hx : val A = x) (h : val (A.drop k) = d * val (out.drop k) + r) (hr : r < d) : val out = x / d := by
  subst hk; rw [List.drop_zero, List.drop_zero, hx] at h; exact (short_div h hr).1
theorem short_rem {A out : List Nat} {k x d r : Nat} (hk : k = 0) (hx : val A = x) (h : val (A.drop k) = d * val (out.drop k) + r) (hr : r < d) : r = x % d := by
  subst hk; rw [List.drop_zero, List.drop_zero, hx] at h; exact (short_div h hr).2
/-- What one turn of the reference's long division keeps. -/
structure RInv (N V lq : Nat) (X : List Nat) (R : Nat) (q : List Nat) (j : Nat) : Prop where
  dX : Dig X
  dq : Dig q
  hq : q.length = lq
  lX : X.length = lq
  zero : ∀ i, i < j → q.getD i 0 = 0
  eq : N = V * (1000000000 ^ j * val (q.drop j)) + 1000000000 ^ j * R + val (X.take j)
  lt : R < V
theorem RInv.start {N V : Nat} {X : List Nat} (hd : Dig X) (hN : N = val X) (hV : 0 < V) : RInv N V X.length X 0 (List.replicate X.length 0) X.length where
  dX := hd
  dq := Dig.replicate _
  hq := List.length_replicate
  lX := rfl
  zero := fun i _ => getD_replicate _ i
  eq := by rw [List.drop_of_length_le (by simp), List.take_length]; simp [val, hN]
  lt := hV
theorem RInv.part_lt {N V lq R : Nat} {X q : List Nat} {j : Nat} (h : RInv N V lq X R q j) (k : Nat) : X.getD k 0 + 1000000000 * R < V * 1000000000 := by
  have := h.dX.getD k
  have := h.lt
  omega
theorem RInv.put {N V lq R P g : Nat} {X q : List Nat} {j : Nat} (h : RInv N V lq X R q (j + 1)) (hj : j < lq) (hP : X.getD j 0 + 1000000000 * R = P) (hg : g = P / V) : RInv N V lq X (P - V * g) (q.set j g) j := by
  have hV : 0 < V := Nat.lt_of_le_of_lt (Nat.zero_le _) h.lt
  have hPV := h.part_lt j
  rw [hP] at hPV
  have hg9 : g < 1000000000 := by rw [hg, Nat.div_lt_iff_lt_mul hV, Nat.mul_comm]; exact hPV
  have h0 : j < q.length := by rw [h.hq]; exact hj
  have hle : V * g ≤ P := by rw [hg]; exact Nat.mul_div_le _ _
  have hrem : P - V * g < V := by
    have := Nat.mod_lt P hV
    have e := Nat.div_add_mod P V
    rw [← hg] at e; omega
  refine ⟨h.dX, h.dq.set j g hg9, by rw [List.length_set]; exact h.hq, h.lX, ?_, ?_, hrem⟩
  · intro i hi; rw [getD_set_ne _ _ _ _ (by omega)]; exact h.zero i (by omega)
  · have e2 := drop_set_same q j g
    have e3 : (q.set j g).getD j 0 = g := by simp [List.getD_eq_getElem?_getD, h0]
    rw [h.eq, val_drop (q.set j g) j (by rw [List.length_set]; exact h0), e2, e3, val_take_succ X j (by rw [h.lX]; exact hj)]
    have e5 : 1000000000 ^ j * P = 1000000000 ^ j * (V * g) + 1000000000 ^ j * (P - V * g) := by rw [← Nat.mul_add, Nat.add_sub_cancel' hle]
    have e6 : V * (1000000000 ^ j * (g + 1000000000 * val (q.drop (j + 1)))) = 1000000000 ^ j * (V * g) + V * (1000000000 ^ (j + 1) * val (q.drop (j + 1))) := by
      rw [Nat.mul_add, Nat.mul_add, Nat.mul_left_comm V, Nat.pow_succ, Nat.mul_assoc (1000000000 ^ j)]
    have e7 : 1000000000 ^ j * P = 1000000000 ^ j * X.getD j 0 + 1000000000 ^ (j + 1) * R := by
      rw [← hP, Nat.mul_add, Nat.pow_succ, Nat.mul_assoc (1000000000 ^ j)]
    omega
theorem RInv.done {N V lq R : Nat} {X q : List Nat} (h : RInv N V lq X R q 0) : val q = N / V ∧ R = N % V := by
  have e := h.eq
  rw [List.drop_zero, Nat.pow_zero, Nat.one_mul, Nat.one_mul] at e
  simp only [List.take_zero, val, Nat.add_zero] at e
  exact short_div e h.lt
theorem scale_len {m t sc : Nat} (hm : 0 < m) (ht : (limbsOf m).getD ((limbsOf m).length - 1) 0 = t) (hsc : 1000000000 / (t + 1) = sc) (hs : 0 < sc) : (limbsOf (m * sc)).length = (limbsOf m).length := by
  have hp := limbsOf_len_pos hm
  refine Nat.le_antisymm (limbsOf_len_of_lt ?_) (len_limbsOf_le (Nat.le_mul_of_pos_right _ hs))
  have h1 := top1' (x := m) (k := (limbsOf m).length - 1) rfl (by omega)
  rw [ht] at h1
  have h2 : m < (t + 1) * 1000000000 ^ ((limbsOf m).length - 1) := by
    rw [← Nat.div_lt_iff_lt_mul (Bpos _), ← h1]; exact Nat.lt_succ_self t
  have h3 : (t + 1) * sc ≤ 1000000000 := by rw [← hsc]; exact Nat.mul_div_le _ _
  have h4 : 1000000000 ^ (limbsOf m).length = 1000000000 * 1000000000 ^ ((limbsOf m).length - 1) := by rw [Nat.mul_comm, ← Nat.pow_succ]; congr 1; omega
  rw [h4]
  calc m * sc < (t + 1) * 1000000000 ^ ((limbsOf m).length - 1) * sc := Nat.mul_lt_mul_of_pos_right h2 hs
    _ = (t + 1) * sc * 1000000000 ^ ((limbsOf m).length - 1) := Nat.mul_right_comm _ _ _
    _ ≤ _ := Nat.mul_le_mul_right _ h3
end Go.Nat9
