/- Plain facts for the walks through the naturals' functions: what a step of each loop keeps. No program here. -/
import Derived.Test.YtmbgbodkhdfdoaaDoorNatA
namespace Go.Nat9

theorem getD_of_ge (L : List Nat) (k : Nat) (h : L.length ≤ k) : L.getD k 0 = 0 := by
  rw [List.getD_eq_getElem?_getD, List.getElem?_eq_none h]; rfl
theorem val_take_succ' (L : List Nat) (k : Nat) : val (L.take (k + 1)) = val (L.take k) + 1000000000 ^ k * L.getD k 0 := by
  by_cases h : k < L.length
  · exact val_take_succ L k h
  · rw [getD_of_ge L k (by omega), List.take_of_length_le (by omega), List.take_of_length_le (by omega)]; omega
theorem val_take_all (L : List Nat) (k : Nat) (h : L.length ≤ k) : val (L.take k) = val L := by rw [List.take_of_length_le h]
/-- A limb put behind, the carry carried on. -/
theorem val_step {out : List Nat} {k : Nat} (hk : out.length = k) (t : Nat) : val (out ++ [t % 1000000000]) + 1000000000 ^ (k + 1) * (t / 1000000000) = val out + 1000000000 ^ k * t := by
  rw [val_snoc, hk, Nat.pow_succ, Nat.mul_assoc, Nat.add_assoc, ← Nat.mul_add, Nat.mod_add_div]
theorem carry_step {out : List Nat} {k V c t w : Nat} (hk : out.length = k) (h : val out + 1000000000 ^ k * c = V) (ht : t = c + w) :
    val (out ++ [t % 1000000000]) + 1000000000 ^ (k + 1) * (t / 1000000000) = V + 1000000000 ^ k * w := by
  rw [val_step hk, ht, Nat.mul_add, ← h, Nat.add_assoc]
theorem limbs_step {L out : List Nat} {k c t : Nat} (hk : out.length = k) (h : val out + 1000000000 ^ k * c = val (L.take k)) (ht : t = c + L.getD k 0) :
    val (out ++ [t % 1000000000]) + 1000000000 ^ (k + 1) * (t / 1000000000) = val (L.take (k + 1)) := by
  rw [carry_step hk h ht, val_take_succ']
theorem limbs_end {L out : List Nat} {k c : Nat} (hk : out.length = k) (hd : Dig out) (hl : k = L.length) (h : val out + 1000000000 ^ k * c = val (L.take k)) (hc : c < 1000000000) :
    trimL (out ++ [c]) = limbsOf (val L) := by
  rw [trimL_spec _ (hd.append (Dig.cons hc Dig.nil)), val_snoc, hk, h, val_take_all L k (by omega)]
theorem dig_snoc {out : List Nat} (h : Dig out) {t : Nat} (ht : t < 1000000000) : Dig (out ++ [t]) := h.append (Dig.cons ht Dig.nil)
theorem len_snoc (out : List Nat) (t : Nat) : (out ++ [t]).length = out.length + 1 := by simp
theorem plus_step {A C out : List Nat} {k c t : Nat} (hk : out.length = k) (h : val out + 1000000000 ^ k * c = val (A.take k) + val (C.take k)) (ht : t = A.getD k 0 + c + C.getD k 0) :
    val (out ++ [t % 1000000000]) + 1000000000 ^ (k + 1) * (t / 1000000000) = val (A.take (k + 1)) + val (C.take (k + 1)) := by
  rw [carry_step hk h (w := A.getD k 0 + C.getD k 0) (by omega), val_take_succ', val_take_succ', Nat.mul_add]; omega
theorem plus_end {A C out : List Nat} {k c : Nat} (hk : out.length = k) (hd : Dig out) (hl : k = A.length) (hC : C.length ≤ A.length) (h : val out + 1000000000 ^ k * c = val (A.take k) + val (C.take k)) (hc : c < 1000000000) :
    trimL (out ++ [c]) = limbsOf (val A + val C) := by
  rw [trimL_spec _ (hd.append (Dig.cons hc Dig.nil)), val_snoc, hk, h, val_take_all A k (by omega), val_take_all C k (by omega)]
theorem minus_step {A C out : List Nat} {k c c' d : Nat} (hk : out.length = k) (h : val (A.take k) + 1000000000 ^ k * c = val (C.take k) + val out) (hd : A.getD k 0 + 1000000000 * c' = C.getD k 0 + c + d) :
    val (A.take (k + 1)) + 1000000000 ^ (k + 1) * c' = val (C.take (k + 1)) + val (out ++ [d]) := by
  have e : 1000000000 ^ k * (A.getD k 0 + 1000000000 * c') = 1000000000 ^ k * (C.getD k 0 + c + d) := by rw [hd]
  rw [val_take_succ', val_take_succ', val_snoc, hk, Nat.pow_succ, Nat.mul_assoc]
  simp only [Nat.mul_add] at e
  omega
theorem minus_end {A C out : List Nat} {k c : Nat} (hk : out.length = k) (hd : Dig out) (hl : k = A.length) (hC : val C ≤ val A) (hCl : C.length ≤ A.length) (h : val (A.take k) + 1000000000 ^ k * c = val (C.take k) + val out) :
    trimL out = limbsOf (val A - val C) := by
  rw [val_take_all A k (by omega), val_take_all C k (by omega)] at h
  have h1 := val_lt hd
  rw [hk] at h1
  rw [trimL_spec _ hd]
  congr 1
  rcases Nat.eq_zero_or_pos c with h0 | h0
  · subst h0; omega
  · have : 1000000000 ^ k * 1 ≤ 1000000000 ^ k * c := Nat.mul_le_mul_left _ h0
    omega
theorem len_le_of_val_le {n m : Nat} (h : n ≤ m) : (limbsOf n).length ≤ (limbsOf m).length := length_limbsOf_le h

theorem take_set_same (L : List Nat) (k v : Nat) : (L.set k v).take k = L.take k := by
  apply List.ext_getElem?
  intro j
  rw [List.getElem?_take, List.getElem?_take]
  split
  · rw [List.getElem?_set_ne (by omega)]
  · rfl
theorem drop_set_same (L : List Nat) (k v : Nat) : (L.set k v).drop (k + 1) = L.drop (k + 1) := by
  apply List.ext_getElem?
  intro j
  rw [List.getElem?_drop, List.getElem?_drop, List.getElem?_set_ne (by omega)]
theorem val_set (L : List Nat) (k v : Nat) (h : k < L.length) : val (L.set k v) + 1000000000 ^ k * L.getD k 0 = val L + 1000000000 ^ k * v := by
  have h1 : (L.set k v).length = L.length := by simp
  rw [val_split (L.set k v) k (by omega), val_split L k (by omega), val_drop (L.set k v) k (by omega), val_drop L k h]
  have e1 := take_set_same L k v
  have e2 := drop_set_same L k v
  have e3 : (L.set k v).getD k 0 = v := by simp [List.getD_eq_getElem?_getD, h]
  rw [e1, e2, e3]
  simp only [Nat.mul_add]
  omega
theorem getD_set_ne (L : List Nat) (k j v : Nat) (h : k ≠ j) : (L.set k v).getD j 0 = L.getD j 0 := by
  simp [List.getD_eq_getElem?_getD, List.getElem?_set_ne h]
theorem times_step {out out' Bs : List Nat} {i j x c t V : Nat} (hlt : i + j < out.length) (h : val out + 1000000000 ^ (i + j) * c = V + 1000000000 ^ i * (x * val (Bs.take j)))
    (ht : t = c + x * Bs.getD j 0 + out.getD (i + j) 0) (ho : out' = out.set (i + j) (t % 1000000000)) :
    val out' + 1000000000 ^ (i + (j + 1)) * (t / 1000000000) = V + 1000000000 ^ i * (x * val (Bs.take (j + 1))) := by
  subst ho
  have h1 := val_set out (i + j) (t % 1000000000) hlt
  have h2 : 1000000000 ^ (i + (j + 1)) * (t / 1000000000) = 1000000000 ^ (i + j) * (1000000000 * (t / 1000000000)) := by
    rw [show i + (j + 1) = (i + j) + 1 from by omega, Nat.pow_succ, Nat.mul_assoc]
  have h3 : 1000000000 ^ (i + j) * (t % 1000000000 + 1000000000 * (t / 1000000000)) = 1000000000 ^ (i + j) * (c + x * Bs.getD j 0 + out.getD (i + j) 0) := by
    rw [Nat.mod_add_div, ht]
  have h4 : 1000000000 ^ i * (x * val (Bs.take (j + 1))) = 1000000000 ^ i * (x * val (Bs.take j)) + 1000000000 ^ (i + j) * (x * Bs.getD j 0) := by
    rw [val_take_succ', Nat.mul_add, Nat.mul_add, Nat.pow_add]
    congr 1
    rw [Nat.mul_left_comm x, ← Nat.mul_assoc (1000000000 ^ i)]
  rw [h2, h4]
  simp only [Nat.mul_add] at h3
  omega
theorem times_carry {x y o c : Nat} (hx : x < 1000000000) (hy : y < 1000000000) (ho : o < 1000000000) (hc : c < 1000000000) : c + x * y + o < 1000000000 * 1000000000 := by
  have : x * y ≤ 999999999 * 999999999 := Nat.mul_le_mul (by omega) (by omega)
  omega
theorem times_outer {out out' A Bs : List Nat} {i x c : Nat} (hlt : i + Bs.length < out.length) (hx : x = A.getD i 0)
    (h : val out + 1000000000 ^ (i + Bs.length) * c = val (A.take i) * val Bs + 1000000000 ^ i * (x * val (Bs.take Bs.length))) (h0 : out.getD (i + Bs.length) 0 = 0)
    (ho : out' = out.set (i + Bs.length) c) : val out' = val (A.take (i + 1)) * val Bs := by
  subst ho hx
  have h1 := val_set out (i + Bs.length) c hlt
  rw [h0] at h1
  rw [val_take_succ', Nat.add_mul, Nat.mul_assoc]
  rw [List.take_length] at h
  omega

theorem short_step {A out : List Nat} {k r d t : Nat} (hk : k < A.length) (hl : out.length = A.length) (h : val (A.drop (k + 1)) = d * val (out.drop (k + 1)) + r) (_hd : 0 < d) (ht : t = r * 1000000000 + A.getD k 0) :
    val (A.drop k) = d * val ((out.set k (t / d)).drop k) + t % d := by
  rw [val_drop A k hk, val_drop (out.set k (t / d)) k (by simp; omega), h]
  have e2 := drop_set_same out k (t / d)
  have e3 : (out.set k (t / d)).getD k 0 = t / d := by simp [List.getD_eq_getElem?_getD, show k < out.length from by omega]
  rw [e2, e3, Nat.mul_add d]
  have := Nat.div_add_mod t d
  have e4 : d * (1000000000 * val (out.drop (k + 1))) = 1000000000 * (d * val (out.drop (k + 1))) := by rw [Nat.mul_left_comm]
  omega
theorem short_lt {r d a : Nat} (hr : r < d) (ha : a < 1000000000) : (r * 1000000000 + a) / d < 1000000000 := by
  rw [Nat.div_lt_iff_lt_mul (by omega)]
  have : (r + 1) * 1000000000 ≤ d * 1000000000 := Nat.mul_le_mul_right _ hr
  omega
theorem short_div {V d q r : Nat} (h : V = d * q + r) (hr : r < d) : q = V / d ∧ r = V % d := by
  subst h
  have hd : 0 < d := by omega
  constructor
  · rw [Nat.mul_add_div hd, Nat.div_eq_of_lt hr]; rfl
  · rw [Nat.mul_add_mod, Nat.mod_eq_of_lt hr]

theorem val_of3 (n : Nat) : val [n % 1000000000, n / 1000000000 % 1000000000, n / 1000000000 / 1000000000] = n := by
  simp only [val]; omega
theorem limbsOf_len_pos {n : Nat} (h : 0 < n) : 0 < (limbsOf n).length := by
  rw [List.length_pos_iff]; intro h0; rw [limbsOf_eq_nil] at h0; omega
theorem limbsOf_top {n : Nat} (h : 0 < n) : 0 < (limbsOf n).getD ((limbsOf n).length - 1) 0 := by
  have hp := limbsOf_len_pos h
  have := last_limbsOf n
  rw [List.getLast?_eq_getElem?] at this
  rw [List.getD_eq_getElem?_getD]
  rw [List.getElem?_eq_getElem (by omega)] at this ⊢
  simp at this ⊢
  omega
theorem limbsOf_inj {n m : Nat} (h : limbsOf n = limbsOf m) : n = m := by rw [← val_limbsOf n, h, val_limbsOf]
theorem limbsOf_one {d : Nat} (h : 0 < d) (hd : d < 1000000000) : limbsOf d = [d] := by
  rw [limbsOf_pos (by omega), Nat.mod_eq_of_lt hd, Nat.div_eq_of_lt hd, limbsOf_zero]
theorem limbsOf_single {n : Nat} (h : (limbsOf n).length = 1) : n < 1000000000 ∧ limbsOf n = [n] := by
  have h1 := lt_of_limbsOf_len (n := n) (k := 1) (by omega)
  have h2 : 0 < n := by
    rcases Nat.eq_zero_or_pos n with h0 | h0
    · subst h0; rw [limbsOf_zero] at h; simp at h
    · exact h0
  exact ⟨by omega, limbsOf_one h2 (by omega)⟩
theorem val_drop_zero (L : List Nat) : val (L.drop 0) = val L := by simp
theorem val_drop_all (L : List Nat) : val (L.drop L.length) = 0 := by simp [val]
/-- Two lists of one length: equal from place k+1 on, and a lesser limb at k. -/
theorem cmp_top {n m : Nat} (hlen : (limbsOf n).length = (limbsOf m).length) (k : Nat) (hk : k < (limbsOf n).length) (hd : (limbsOf n).drop (k + 1) = (limbsOf m).drop (k + 1))
    (hlt : (limbsOf n).getD k 0 < (limbsOf m).getD k 0) : n < m := by
  have := val_lt_of_top (dig_limbsOf n) (dig_limbsOf m) hlen k hk hd hlt
  rwa [val_limbsOf, val_limbsOf] at this
theorem cmp_drop {n m : Nat} (hlen : (limbsOf n).length = (limbsOf m).length) (k : Nat) (hk : k < (limbsOf n).length) (hd : (limbsOf n).drop (k + 1) = (limbsOf m).drop (k + 1))
    (he : (limbsOf n).getD k 0 = (limbsOf m).getD k 0) : (limbsOf n).drop k = (limbsOf m).drop k := by
  rw [drop_getD_cons _ k hk, drop_getD_cons _ k (by omega), hd, he]
theorem cmp_all {n m : Nat} (hd : (limbsOf n).drop 0 = (limbsOf m).drop 0) : n = m := limbsOf_inj (by simpa using hd)
end Go.Nat9
