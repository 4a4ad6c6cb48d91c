/- Plain facts on naturals as lists of limbs below 10^9. No program here. -/
import Derived.Test.YtgfldmhpindbpaaDoorFwH
namespace Go.Nat9

def B : Nat := 1000000000
theorem B_eq : B = 1000000000 := rfl
def val : List Nat → Nat
  | [] => 0
  | a :: l => a + 1000000000 * val l
def Dig (L : List Nat) : Prop := ∀ a ∈ L, a < 1000000000
theorem Dig.nil : Dig [] := fun _ h => by cases h
theorem Dig.cons {a : Nat} {L : List Nat} (h : a < 1000000000) (h' : Dig L) : Dig (a :: L) := fun b hb => by
  rcases List.mem_cons.1 hb with rfl | hb
  · exact h
  · exact h' b hb
theorem Dig.head {a : Nat} {L : List Nat} (h : Dig (a :: L)) : a < 1000000000 := h a List.mem_cons_self
theorem Dig.tail {a : Nat} {L : List Nat} (h : Dig (a :: L)) : Dig L := fun b hb => h b (List.mem_cons_of_mem _ hb)
theorem Dig.append {L M : List Nat} (h : Dig L) (h' : Dig M) : Dig (L ++ M) := fun b hb => by
  rcases List.mem_append.1 hb with hb | hb
  · exact h b hb
  · exact h' b hb
theorem Dig.take {L : List Nat} (h : Dig L) (k : Nat) : Dig (L.take k) := fun b hb => h b (List.mem_of_mem_take hb)
theorem Dig.drop {L : List Nat} (h : Dig L) (k : Nat) : Dig (L.drop k) := fun b hb => h b (List.mem_of_mem_drop hb)
theorem Dig.getD {L : List Nat} (h : Dig L) (k : Nat) : L.getD k 0 < 1000000000 := by
  rw [List.getD_eq_getElem?_getD]
  cases hk : L[k]? with
  | none => simp
  | some a => exact h a (List.mem_of_getElem? hk)
theorem Dig.set {L : List Nat} (h : Dig L) (k n : Nat) (hn : n < 1000000000) : Dig (L.set k n) := fun b hb => by
  rcases List.mem_or_eq_of_mem_set hb with hb | rfl
  · exact h b hb
  · exact hn
theorem Dig.replicate (k : Nat) : Dig (List.replicate k 0) := fun b hb => by
  rw [(List.mem_replicate.1 hb).2]; decide

theorem val_append : ∀ (L M : List Nat), val (L ++ M) = val L + 1000000000 ^ L.length * val M
  | [], M => by simp [val]
  | a :: L, M => by
    simp only [List.cons_append, val, List.length_cons]
    rw [val_append L M, Nat.mul_add, Nat.pow_succ, Nat.add_assoc]
    congr 2
    rw [← Nat.mul_assoc, Nat.mul_comm (1000000000 ^ L.length) 1000000000]
theorem val_snoc (L : List Nat) (a : Nat) : val (L ++ [a]) = val L + 1000000000 ^ L.length * a := by
  rw [val_append]; simp [val]
theorem val_lt : ∀ {L : List Nat}, Dig L → val L < 1000000000 ^ L.length
  | [], _ => by simp [val]
  | a :: L, h => by
    have h1 := h.head
    have h2 := val_lt h.tail
    simp only [val, List.length_cons, Nat.pow_succ]
    have : 1000000000 * val L + 1000000000 ≤ 1000000000 ^ L.length * 1000000000 := by
      have : 1000000000 * (val L + 1) ≤ 1000000000 * 1000000000 ^ L.length := Nat.mul_le_mul_left _ h2
      rw [Nat.mul_comm (1000000000 ^ L.length)]
      omega
    omega
theorem val_replicate (k : Nat) : val (List.replicate k 0) = 0 := by
  induction k with
  | zero => rfl
  | succ k ih => simp [List.replicate_succ, val, ih]
theorem take_succ_getD (L : List Nat) (k : Nat) (h : k < L.length) : L.take (k + 1) = L.take k ++ [L.getD k 0] := by
  rw [List.take_succ_eq_append_getElem h]
  congr 2
  simp [List.getD_eq_getElem?_getD, h]
theorem val_take_succ (L : List Nat) (k : Nat) (h : k < L.length) : val (L.take (k + 1)) = val (L.take k) + 1000000000 ^ k * L.getD k 0 := by
  rw [take_succ_getD L k h, val_snoc, List.length_take, Nat.min_eq_left (by omega)]
theorem val_drop (L : List Nat) (k : Nat) (h : k < L.length) : val (L.drop k) = L.getD k 0 + 1000000000 * val (L.drop (k + 1)) := by
  rw [List.drop_eq_getElem_cons h, val]
  congr 1
  simp [List.getD_eq_getElem?_getD, h]
theorem val_split (L : List Nat) (k : Nat) (h : k ≤ L.length) : val L = val (L.take k) + 1000000000 ^ k * val (L.drop k) := by
  conv => lhs; rw [← List.take_append_drop k L]
  rw [val_append, List.length_take, Nat.min_eq_left h]

/-! ## The canonical list -/
def limbsOf (n : Nat) : List Nat := if n = 0 then [] else n % 1000000000 :: limbsOf (n / 1000000000)
termination_by n
decreasing_by omega
theorem limbsOf_zero : limbsOf 0 = [] := by rw [limbsOf]; rfl
theorem limbsOf_pos {n : Nat} (h : n ≠ 0) : limbsOf n = n % 1000000000 :: limbsOf (n / 1000000000) := by rw [limbsOf, if_neg h]
theorem val_limbsOf (n : Nat) : val (limbsOf n) = n := by
  induction n using Nat.strongRecOn with
  | _ n ih =>
    by_cases h : n = 0
    · subst h; rw [limbsOf_zero]; rfl
    · rw [limbsOf_pos h, val, ih (n / 1000000000) (by omega)]; omega
theorem dig_limbsOf (n : Nat) : Dig (limbsOf n) := by
  induction n using Nat.strongRecOn with
  | _ n ih =>
    by_cases h : n = 0
    · subst h; rw [limbsOf_zero]; exact Dig.nil
    · rw [limbsOf_pos h]; exact Dig.cons (by omega) (ih _ (by omega))
theorem limbsOf_eq_nil {n : Nat} : limbsOf n = [] ↔ n = 0 := by
  constructor
  · intro h
    have := val_limbsOf n
    rw [h] at this
    exact this.symm
  · rintro rfl; exact limbsOf_zero
/-- The highest limb is not nought. -/
theorem last_limbsOf (n : Nat) : (limbsOf n).getLast? ≠ some 0 := by
  induction n using Nat.strongRecOn with
  | _ n ih =>
    by_cases h : n = 0
    · subst h; rw [limbsOf_zero]; simp
    · rw [limbsOf_pos h]
      by_cases h2 : n / 1000000000 = 0
      · rw [h2, limbsOf_zero]; simp; omega
      · have := ih (n / 1000000000) (by omega)
        rw [List.getLast?_cons]
        cases hl : (limbsOf (n / 1000000000)).getLast? with
        | none =>
          rw [List.getLast?_eq_none_iff, limbsOf_eq_nil] at hl
          exact absurd hl h2
        | some a =>
          rw [hl] at this
          simpa using this
theorem eq_limbsOf : ∀ {L : List Nat}, Dig L → L.getLast? ≠ some 0 → L = limbsOf (val L)
  | [], _, _ => limbsOf_zero.symm
  | a :: L, h, hl => by
    have ha := h.head
    have hne : val (a :: L) ≠ 0 := by
      intro h0
      have hv : val L = 0 := by simp only [val] at h0; omega
      have ha0 : a = 0 := by simp only [val] at h0; omega
      cases L with
      | nil => subst ha0; simp at hl
      | cons b M =>
        have := eq_limbsOf (L := b :: M) h.tail (by simpa [List.getLast?_cons] using hl)
        rw [hv, limbsOf_zero] at this
        cases this
    rw [limbsOf_pos hne]
    have e1 : val (a :: L) % 1000000000 = a := by simp only [val]; omega
    have e2 : val (a :: L) / 1000000000 = val L := by simp only [val]; omega
    rw [e1, e2]
    congr 1
    cases L with
    | nil => exact limbsOf_zero.symm
    | cons b M => exact eq_limbsOf h.tail (by simpa [List.getLast?_cons] using hl)

def trimL (L : List Nat) : List Nat := (L.reverse.dropWhile (· == 0)).reverse
theorem trimL_snoc_zero (L : List Nat) : trimL (L ++ [0]) = trimL L := by simp [trimL]
theorem trimL_snoc {L : List Nat} {a : Nat} (h : a ≠ 0) : trimL (L ++ [a]) = L ++ [a] := by simp [trimL, h]
theorem trimL_nil : trimL [] = [] := rfl
theorem trimL_spec (L : List Nat) : Dig L → trimL L = limbsOf (val L) := by
  intro h
  generalize hn : L.length = n
  induction n generalizing L with
  | zero =>
    have : L = [] := List.eq_nil_of_length_eq_zero hn
    subst this
    exact limbsOf_zero.symm
  | succ n ih =>
    have hne : L ≠ [] := by intro h0; subst h0; simp at hn
    have hs := List.dropLast_concat_getLast hne
    rw [← hs] at h ⊢
    have hd : Dig L.dropLast := fun a ha => h a (List.mem_append_left _ ha)
    by_cases h0 : L.getLast hne = 0
    · rw [h0, trimL_snoc_zero, ih L.dropLast hd (by simp [hn]), val_snoc]
      simp
    · rw [trimL_snoc h0]
      exact eq_limbsOf h (by simp [h0])
theorem trimL_take (L : List Nat) (k : Nat) (h : k < L.length) (h0 : L.getD k 0 = 0) : trimL (L.take (k + 1)) = trimL (L.take k) := by
  rw [take_succ_getD L k h, h0, trimL_snoc_zero]
theorem trimL_stop (L : List Nat) (k : Nat) (h : k < L.length) (h0 : L.getD k 0 ≠ 0) : trimL (L.take (k + 1)) = L.take (k + 1) := by
  rw [take_succ_getD L k h, trimL_snoc h0]

/-! ## Order -/
theorem length_limbsOf_lt {n m : Nat} (h : (limbsOf n).length < (limbsOf m).length) : n < m := by
  have h1 := val_lt (dig_limbsOf n)
  rw [val_limbsOf] at h1
  -- m is at least 10^(9 (length - 1))
  have h2 : 1000000000 ^ ((limbsOf m).length - 1) ≤ m := by
    have hne : limbsOf m ≠ [] := by intro h0; rw [h0] at h; simp at h
    have hs := List.dropLast_concat_getLast hne
    have hlast : (limbsOf m).getLast hne ≠ 0 := fun h0 => last_limbsOf m (by rw [List.getLast?_eq_some_getLast hne, h0])
    have hv := val_limbsOf m
    rw [← hs, val_snoc, List.length_dropLast] at hv
    have : 1000000000 ^ ((limbsOf m).length - 1) * 1 ≤ 1000000000 ^ ((limbsOf m).length - 1) * (limbsOf m).getLast hne := Nat.mul_le_mul_left _ (by omega)
    omega
  have h3 : 1000000000 ^ (limbsOf n).length ≤ 1000000000 ^ ((limbsOf m).length - 1) := Nat.pow_le_pow_right (by decide) (by omega)
  omega
theorem length_limbsOf_le {n m : Nat} (h : n ≤ m) : (limbsOf n).length ≤ (limbsOf m).length := by
  rcases Nat.lt_or_ge (limbsOf m).length (limbsOf n).length with h' | h'
  · have := length_limbsOf_lt h'; omega
  · exact h'
theorem limbsOf_len_of_lt {n k : Nat} (h : n < 1000000000 ^ k) : (limbsOf n).length ≤ k := by
  rcases Nat.lt_or_ge k (limbsOf n).length with h' | h'
  · have hne : limbsOf n ≠ [] := by intro h0; rw [h0] at h'; simp at h'
    have hs := List.dropLast_concat_getLast hne
    have hlast : (limbsOf n).getLast hne ≠ 0 := fun h0 => last_limbsOf n (by rw [List.getLast?_eq_some_getLast hne, h0])
    have hv := val_limbsOf n
    rw [← hs, val_snoc, List.length_dropLast] at hv
    have h1 : 1000000000 ^ k ≤ 1000000000 ^ ((limbsOf n).length - 1) := Nat.pow_le_pow_right (by decide) (by omega)
    have h2 : 1000000000 ^ ((limbsOf n).length - 1) * 1 ≤ 1000000000 ^ ((limbsOf n).length - 1) * (limbsOf n).getLast hne := Nat.mul_le_mul_left _ (by omega)
    omega
  · exact h'
theorem lt_of_limbsOf_len {n k : Nat} (h : (limbsOf n).length ≤ k) : n < 1000000000 ^ k := by
  have h1 := val_lt (dig_limbsOf n)
  rw [val_limbsOf] at h1
  exact Nat.lt_of_lt_of_le h1 (Nat.pow_le_pow_right (by decide) h)
/-- -1, 0 or 1 -/
def cmpN (n m : Nat) : Int := if n < m then -1 else if m < n then 1 else 0
theorem cmpN_lt {n m : Nat} (h : n < m) : cmpN n m = -1 := if_pos h
theorem cmpN_gt {n m : Nat} (h : m < n) : cmpN n m = 1 := by unfold cmpN; rw [if_neg (by omega), if_pos h]
theorem cmpN_eq {n m : Nat} (h : n = m) : cmpN n m = 0 := by unfold cmpN; rw [if_neg (by omega), if_neg (by omega)]
theorem cmpN_range (n m : Nat) : -1 ≤ cmpN n m ∧ cmpN n m ≤ 1 := by unfold cmpN; split <;> (try split) <;> omega
theorem cmpN_neg {n m : Nat} : cmpN n m < 0 ↔ n < m := by unfold cmpN; split <;> (try split) <;> omega
theorem cmpN_pos {n m : Nat} : 0 < cmpN n m ↔ m < n := by unfold cmpN; split <;> (try split) <;> omega
theorem cmpN_zero {n m : Nat} : cmpN n m = 0 ↔ n = m := by unfold cmpN; split <;> (try split) <;> omega
/-- Lists of one length, alike from place k on: the limb ahead of k decides. -/
theorem val_lt_of_top {L M : List Nat} (hL : Dig L) (_hM : Dig M) (hlen : L.length = M.length) (k : Nat) (hk : k < L.length) (hd : L.drop (k + 1) = M.drop (k + 1)) (hlt : L.getD k 0 < M.getD k 0) : val L < val M := by
  rw [val_split L (k + 1) (by omega), val_split M (k + 1) (by omega), hd, val_take_succ L k hk, val_take_succ M k (by omega)]
  have h1 := val_lt (hL.take k)
  rw [List.length_take, Nat.min_eq_left (by omega)] at h1
  have h2 : 1000000000 ^ k * (L.getD k 0 + 1) ≤ 1000000000 ^ k * M.getD k 0 := Nat.mul_le_mul_left _ hlt
  rw [Nat.mul_add] at h2
  omega
theorem drop_getD_cons (L : List Nat) (k : Nat) (h : k < L.length) : L.drop k = L.getD k 0 :: L.drop (k + 1) := by
  rw [List.drop_eq_getElem_cons h]
  congr 1
  simp [List.getD_eq_getElem?_getD, h]
end Go.Nat9

/-! Plain facts for the walks through the naturals' functions: what a step of each loop keeps. No program here. -/
namespace Go.Nat9

theorem getD_of_ge (L : List Nat) (k : Nat) (h : L.length ≤ k) : L.getD k 0 = 0 := by
  rw [List.getD_eq_getElem?_getD, List.getElem?_eq_none h]; rfl
theorem val_take_succ' (L : List Nat) (k : Nat) : val (L.take (k + 1)) = val (L.take k) + 1000000000 ^ k * L.getD k 0 := by
  by_cases h : k < L.length
  · exact val_take_succ L k h
  · rw [getD_of_ge L k (by omega), List.take_of_length_le (by omega), List.take_of_length_le (by omega)]; omega
theorem val_take_all (L : List Nat) (k : Nat) (h : L.length ≤ k) : val (L.take k) = val L := by rw [List.take_of_length_le h]
/-- A limb put behind, the carry carried on. -/
theorem val_step {out : List Nat} {k : Nat} (hk : out.length = k) (t : Nat) : val (out ++ [t % 1000000000]) + 1000000000 ^ (k + 1) * (t / 1000000000) = val out + 1000000000 ^ k * t := by
  rw [val_snoc, hk, Nat.pow_succ, Nat.mul_assoc, Nat.add_assoc, ← Nat.mul_add, Nat.mod_add_div]
theorem carry_step {out : List Nat} {k V c t w : Nat} (hk : out.length = k) (h : val out + 1000000000 ^ k * c = V) (ht : t = c + w) :
    val (out ++ [t % 1000000000]) + 1000000000 ^ (k + 1) * (t / 1000000000) = V + 1000000000 ^ k * w := by
  rw [val_step hk, ht, Nat.mul_add, ← h, Nat.add_assoc]
theorem limbs_step {L out : List Nat} {k c t : Nat} (hk : out.length = k) (h : val out + 1000000000 ^ k * c = val (L.take k)) (ht : t = c + L.getD k 0) :
    val (out ++ [t % 1000000000]) + 1000000000 ^ (k + 1) * (t / 1000000000) = val (L.take (k + 1)) := by
  rw [carry_step hk h ht, val_take_succ']
theorem limbs_end {L out : List Nat} {k c : Nat} (hk : out.length = k) (hd : Dig out) (hl : k = L.length) (h : val out + 1000000000 ^ k * c = val (L.take k)) (hc : c < 1000000000) :
    trimL (out ++ [c]) = limbsOf (val L) := by
  rw [trimL_spec _ (hd.append (Dig.cons hc Dig.nil)), val_snoc, hk, h, val_take_all L k (by omega)]
theorem dig_snoc {out : List Nat} (h : Dig out) {t : Nat} (ht : t < 1000000000) : Dig (out ++ [t]) := h.append (Dig.cons ht Dig.nil)
theorem len_snoc (out : List Nat) (t : Nat) : (out ++ [t]).length = out.length + 1 := by simp
theorem plus_step {A C out : List Nat} {k c t : Nat} (hk : out.length = k) (h : val out + 1000000000 ^ k * c = val (A.take k) + val (C.take k)) (ht : t = A.getD k 0 + c + C.getD k 0) :
    val (out ++ [t % 1000000000]) + 1000000000 ^ (k + 1) * (t / 1000000000) = val (A.take (k + 1)) + val (C.take (k + 1)) := by
  rw [carry_step hk h (w := A.getD k 0 + C.getD k 0) (by omega), val_take_succ', val_take_succ', Nat.mul_add]; omega
theorem plus_end {A C out : List Nat} {k c : Nat} (hk : out.length = k) (hd : Dig out) (hl : k = A.length) (hC : C.length ≤ A.length) (h : val out + 1000000000 ^ k * c = val (A.take k) + val (C.take k)) (hc : c < 1000000000) :
    trimL (out ++ [c]) = limbsOf (val A + val C) := by
  rw [trimL_spec _ (hd.append (Dig.cons hc Dig.nil)), val_snoc, hk, h, val_take_all A k (by omega), val_take_all C k (by omega)]
theorem minus_step {A C out : List Nat} {k c c' d : Nat} (hk : out.length = k) (h : val (A.take k) + 1000000000 ^ k * c = val (C.take k) + val out) (hd : A.getD k 0 + 1000000000 * c' = C.getD k 0 + c + d) :
    val (A.take (k + 1)) + 1000000000 ^ (k + 1) * c' = val (C.take (k + 1)) + val (out ++ [d]) := by
  have e : 1000000000 ^ k * (A.getD k 0 + 1000000000 * c') = 1000000000 ^ k * (C.getD k 0 + c + d) := by rw [hd]
  rw [val_take_succ', val_take_succ', val_snoc, hk, Nat.pow_succ, Nat.mul_assoc]
  simp only [Nat.mul_add] at e
  omega
theorem minus_end {A C out : List Nat} {k c : Nat} (hk : out.length = k) (hd : Dig out) (hl : k = A.length) (hC : val C ≤ val A) (hCl : C.length ≤ A.length) (h : val (A.take k) + 1000000000 ^ k * c = val (C.take k) + val out) :
    trimL out = limbsOf (val A - val C) := by
  rw [val_take_all A k (by omega), val_take_all C k (by omega)] at h
  have h1 := val_lt hd
  rw [hk] at h1
  rw [trimL_spec _ hd]
  congr 1
  rcases Nat.eq_zero_or_pos c with h0 | h0
  · subst h0; omega
  · have : 1000000000 ^ k * 1 ≤ 1000000000 ^ k * c := Nat.mul_le_mul_left _ h0
    omega
theorem len_le_of_val_le {n m : Nat} (h : n ≤ m) : (limbsOf n).length ≤ (limbsOf m).length := length_limbsOf_le h

theorem take_set_same (L : List Nat) (k v : Nat) : (L.set k v).take k = L.take k := by
  apply List.ext_getElem?
  intro j
  rw [List.getElem?_take, List.getElem?_take]
  split
  · rw [List.getElem?_set_ne (by omega)]
  · rfl
theorem drop_set_same (L : List Nat) (k v : Nat) : (L.set k v).drop (k + 1) = L.drop (k + 1) := by
  apply List.ext_getElem?
  intro j
  rw [List.getElem?_drop, List.getElem?_drop, List.getElem?_set_ne (by omega)]
theorem val_set (L : List Nat) (k v : Nat) (h : k < L.length) : val (L.set k v) + 1000000000 ^ k * L.getD k 0 = val L + 1000000000 ^ k * v := by
  have h1 : (L.set k v).length = L.length := by simp
  rw [val_split (L.set k v) k (by omega), val_split L k (by omega), val_drop (L.set k v) k (by omega), val_drop L k h]
  have e1 := take_set_same L k v
  have e2 := drop_set_same L k v
  have e3 : (L.set k v).getD k 0 = v := by simp [List.getD_eq_getElem?_getD, h]
  rw [e1, e2, e3]
  simp only [Nat.mul_add]
  omega
theorem getD_set_ne (L : List Nat) (k j v : Nat) (h : k ≠ j) : (L.set k v).getD j 0 = L.getD j 0 := by
  simp [List.getD_eq_getElem?_getD, List.getElem?_set_ne h]
theorem times_step {out out' Bs : List Nat} {i j x c t V : Nat} (hlt : i + j < out.length) (h : val out + 1000000000 ^ (i + j) * c = V + 1000000000 ^ i * (x * val (Bs.take j)))
    (ht : t = c + x * Bs.getD j 0 + out.getD (i + j) 0) (ho : out' = out.set (i + j) (t % 1000000000)) :
    val out' + 1000000000 ^ (i + (j + 1)) * (t / 1000000000) = V + 1000000000 ^ i * (x * val (Bs.take (j + 1))) := by
  subst ho
  have h1 := val_set out (i + j) (t % 1000000000) hlt
  have h2 : 1000000000 ^ (i + (j + 1)) * (t / 1000000000) = 1000000000 ^ (i + j) * (1000000000 * (t / 1000000000)) := by
    rw [show i + (j + 1) = (i + j) + 1 from by omega, Nat.pow_succ, Nat.mul_assoc]
  have h3 : 1000000000 ^ (i + j) * (t % 1000000000 + 1000000000 * (t / 1000000000)) = 1000000000 ^ (i + j) * (c + x * Bs.getD j 0 + out.getD (i + j) 0) := by
    rw [Nat.mod_add_div, ht]
  have h4 : 1000000000 ^ i * (x * val (Bs.take (j + 1))) = 1000000000 ^ i * (x * val (Bs.take j)) + 1000000000 ^ (i + j) * (x * Bs.getD j 0) := by
    rw [val_take_succ', Nat.mul_add, Nat.mul_add, Nat.pow_add]
    congr 1
    rw [Nat.mul_left_comm x, ← Nat.mul_assoc (1000000000 ^ i)]
  rw [h2, h4]
  simp only [Nat.mul_add] at h3
  omega
theorem times_carry {x y o c : Nat} (hx : x < 1000000000) (hy : y < 1000000000) (ho : o < 1000000000) (hc : c < 1000000000) : c + x * y + o < 1000000000 * 1000000000 := by
  have : x * y ≤ 999999999 * 999999999 := Nat.mul_le_mul (by omega) (by omega)
  omega
theorem times_outer {out out' A Bs : List Nat} {i x c : Nat} (hlt : i + Bs.length < out.length) (hx : x = A.getD i 0)
    (h : val out + 1000000000 ^ (i + Bs.length) * c = val (A.take i) * val Bs + 1000000000 ^ i * (x * val (Bs.take Bs.length))) (h0 : out.getD (i + Bs.length) 0 = 0)
    (ho : out' = out.set (i + Bs.length) c) : val out' = val (A.take (i + 1)) * val Bs := by
  subst ho hx
  have h1 := val_set out (i + Bs.length) c hlt
  rw [h0] at h1
  rw [val_take_succ', Nat.add_mul, Nat.mul_assoc]
  rw [List.take_length] at h
  omega

theorem short_step {A out : List Nat} {k r d t : Nat} (hk : k < A.length) (hl : out.length = A.length) (h : val (A.drop (k + 1)) = d * val (out.drop (k + 1)) + r) (_hd : 0 < d) (ht : t = r * 1000000000 + A.getD k 0) :
    val (A.drop k) = d * val ((out.set k (t / d)).drop k) + t % d := by
  rw [val_drop A k hk, val_drop (out.set k (t / d)) k (by simp; omega), h]
  have e2 := drop_set_same out k (t / d)
  have e3 : (out.set k (t / d)).getD k 0 = t / d := by simp [List.getD_eq_getElem?_getD, show k < out.length from by omega]
  rw [e2, e3, Nat.mul_add d]
  have := Nat.div_add_mod t d
  have e4 : d * (1000000000 * val (out.drop (k + 1))) = 1000000000 * (d * val (out.drop (k + 1))) := by rw [Nat.mul_left_comm]
  omega
theorem short_lt {r d a : Nat} (hr : r < d) (ha : a < 1000000000) : (r * 1000000000 + a) / d < 1000000000 := by
  rw [Nat.div_lt_iff_lt_mul (by omega)]
  have : (r + 1) * 1000000000 ≤ d * 1000000000 := Nat.mul_le_mul_right _ hr
  omega
theorem short_div {V d q r : Nat} (h : V = d * q + r) (hr : r < d) : q = V / d ∧ r = V % d := by
  subst h
  have hd : 0 < d := by omega
  constructor
  · rw [Nat.mul_add_div hd, Nat.div_eq_of_lt hr]; rfl
  · rw [Nat.mul_add_mod, Nat.mod_eq_of_lt hr]

theorem val_of3 (n : Nat) : val [n % 1000000000, n / 1000000000 % 1000000000, n / 1000000000 / 1000000000] = n := by
  simp only [val]; omega
theorem limbsOf_len_pos {n : Nat} (h : 0 < n) : 0 < (limbsOf n).length := by
  rw [List.length_pos_iff]; intro h0; rw [limbsOf_eq_nil] at h0; omega
theorem limbsOf_top {n : Nat} (h : 0 < n) : 0 < (limbsOf n).getD ((limbsOf n).length - 1) 0 := by
  have hp := limbsOf_len_pos h
  have := last_limbsOf n
  rw [List.getLast?_eq_getElem?] at this
  rw [List.getD_eq_getElem?_getD]
  rw [List.getElem?_eq_getElem (by omega)] at this ⊢
  simp at this ⊢
  omega
theorem limbsOf_inj {n m : Nat} (h : limbsOf n = limbsOf m) : n = m := by rw [← val_limbsOf n, h, val_limbsOf]
theorem limbsOf_one {d : Nat} (h : 0 < d) (hd : d < 1000000000) : limbsOf d = [d] := by
  rw [limbsOf_pos (by omega), Nat.mod_eq_of_lt hd, Nat.div_eq_of_lt hd, limbsOf_zero]
theorem limbsOf_single {n : Nat} (h : (limbsOf n).length = 1) : n < 1000000000 ∧ limbsOf n = [n] := by
  have h1 := lt_of_limbsOf_len (n := n) (k := 1) (by omega)
  have h2 : 0 < n := by
    rcases Nat.eq_zero_or_pos n with h0 | h0
    · subst h0; rw [limbsOf_zero] at h; simp at h
    · exact h0
  exact ⟨by omega, limbsOf_one h2 (by omega)⟩
theorem val_drop_zero (L : List Nat) : val (L.drop 0) = val L := by simp
theorem val_drop_all (L : List Nat) : val (L.drop L.length) = 0 := by simp [val]
/-- Two lists of one length: equal from place k+1 on, and a lesser limb at k. -/
theorem cmp_top {n m : Nat} (hlen : (limbsOf n).length = (limbsOf m).length) (k : Nat) (hk : k < (limbsOf n).length) (hd : (limbsOf n).drop (k + 1) = (limbsOf m).drop (k + 1))
    (hlt : (limbsOf n).getD k 0 < (limbsOf m).getD k 0) : n < m := by
  have := val_lt_of_top (dig_limbsOf n) (dig_limbsOf m) hlen k hk hd hlt
  rwa [val_limbsOf, val_limbsOf] at this
theorem cmp_drop {n m : Nat} (hlen : (limbsOf n).length = (limbsOf m).length) (k : Nat) (hk : k < (limbsOf n).length) (hd : (limbsOf n).drop (k + 1) = (limbsOf m).drop (k + 1))
    (he : (limbsOf n).getD k 0 = (limbsOf m).getD k 0) : (limbsOf n).drop k = (limbsOf m).drop k := by
  rw [drop_getD_cons _ k hk, drop_getD_cons _ k (by omega), hd, he]
theorem cmp_all {n m : Nat} (hd : (limbsOf n).drop 0 = (limbsOf m).drop 0) : n = m := limbsOf_inj (by simpa using hd)
end Go.Nat9
