/- Plain facts on naturals as lists of limbs below 10^9. No program here. -/
import Derived.Test.YtmambmpohkollaaGreatDoorFwA
import Derived.Lib.LazyBuf
namespace Go.Nat9

def B : Nat := 1000000000
theorem B_eq : B = 1000000000 := rfl
def val : List Nat → Nat
  | [] => 0
  | a :: l => a + 1000000000 * val l
def Dig (L : List Nat) : Prop := ∀ a ∈ L, a < 1000000000
theorem Dig.nil : Dig [] := fun _ h => by cases h
theorem Dig.cons {a : Nat} {L : List Nat} (h : a < 1000000000) (h' : Dig L) : Dig (a :: L) := fun b hb => by
  rcases List.mem_cons.1 hb with rfl | hb
  · exact h
  · exact h' b hb
theorem Dig.head {a : Nat} {L : List Nat} (h : Dig (a :: L)) : a < 1000000000 := h a List.mem_cons_self
theorem Dig.tail {a : Nat} {L : List Nat} (h : Dig (a :: L)) : Dig L := fun b hb => h b (List.mem_cons_of_mem _ hb)
theorem Dig.append {L M : List Nat} (h : Dig L) (h' : Dig M) : Dig (L ++ M) := fun b hb => by
  rcases List.mem_append.1 hb with hb | hb
  · exact h b hb
  · exact h' b hb
theorem Dig.take {L : List Nat} (h : Dig L) (k : Nat) : Dig (L.take k) := fun b hb => h b (List.mem_of_mem_take hb)
theorem Dig.drop {L : List Nat} (h : Dig L) (k : Nat) : Dig (L.drop k) := fun b hb => h b (List.mem_of_mem_drop hb)
theorem Dig.getD {L : List Nat} (h : Dig L) (k : Nat) : L.getD k 0 < 1000000000 := by
  rw [List.getD_eq_getElem?_getD]
  cases hk : L[k]? with
  | none => simp
  | some a => exact h a (List.mem_of_getElem? hk)
theorem Dig.set {L : List Nat} (h : Dig L) (k n : Nat) (hn : n < 1000000000) : Dig (L.set k n) := fun b hb => by
  rcases List.mem_or_eq_of_mem_set hb with hb | rfl
  · exact h b hb
  · exact hn
theorem Dig.replicate (k : Nat) : Dig (List.replicate k 0) := fun b hb => by
  rw [(List.mem_replicate.1 hb).2]; decide

theorem val_append : ∀ (L M : List Nat), val (L ++ M) = val L + 1000000000 ^ L.length * val M
  | [], M => by simp [val]
  | a :: L, M => by
    simp only [List.cons_append, val, List.length_cons]
    rw [val_append L M, Nat.mul_add, Nat.pow_succ, Nat.add_assoc]
    congr 2
    rw [← Nat.mul_assoc, Nat.mul_comm (1000000000 ^ L.length) 1000000000]
theorem val_snoc (L : List Nat) (a : Nat) : val (L ++ [a]) = val L + 1000000000 ^ L.length * a := by
  rw [val_append]; simp [val]
theorem val_lt : ∀ {L : List Nat}, Dig L → val L < 1000000000 ^ L.length
  | [], _ => by simp [val]
  | a :: L, h => by
    have h1 := h.head
    have h2 := val_lt h.tail
    simp only [val, List.length_cons, Nat.pow_succ]
    have : 1000000000 * val L + 1000000000 ≤ 1000000000 ^ L.length * 1000000000 := by
      have : 1000000000 * (val L + 1) ≤ 1000000000 * 1000000000 ^ L.length := Nat.mul_le_mul_left _ h2
      rw [Nat.mul_comm (1000000000 ^ L.length)]
      omega
    omega
theorem val_replicate (k : Nat) : val (List.replicate k 0) = 0 := by
  induction k with
  | zero => rfl
  | succ k ih => simp [List.replicate_succ, val, ih]
theorem take_succ_getD (L : List Nat) (k : Nat) (h : k < L.length) : L.take (k + 1) = L.take k ++ [L.getD k 0] := by
  rw [List.take_succ_eq_append_getElem h]
  congr 2
  simp [List.getD_eq_getElem?_getD, h]
theorem val_take_succ (L : List Nat) (k : Nat) (h : k < L.length) : val (L.take (k + 1)) = val (L.take k) + 1000000000 ^ k * L.getD k 0 := by
  rw [take_succ_getD L k h, val_snoc, List.length_take, Nat.min_eq_left (by omega)]
theorem val_drop (L : List Nat) (k : Nat) (h : k < L.length) : val (L.drop k) = L.getD k 0 + 1000000000 * val (L.drop (k + 1)) := by
  rw [List.drop_eq_getElem_cons h, val]
  congr 1
  simp [List.getD_eq_getElem?_getD, h]
theorem val_split (L : List Nat) (k : Nat) (h : k ≤ L.length) : val L = val (L.take k) + 1000000000 ^ k * val (L.drop k) := by
  conv => lhs; rw [← List.take_append_drop k L]
  rw [val_append, List.length_take, Nat.min_eq_left h]

/-! ## The canonical list -/
def limbsOf (n : Nat) : List Nat := if n = 0 then [] else n % 1000000000 :: limbsOf (n / 1000000000)
termination_by n
decreasing_by omega
theorem limbsOf_zero : limbsOf 0 = [] := by rw [limbsOf]; rfl
theorem limbsOf_pos {n : Nat} (h : n ≠ 0) : limbsOf n = n % 1000000000 :: limbsOf (n / 1000000000) := by rw [limbsOf, if_neg h]
theorem val_limbsOf (n : Nat) : val (limbsOf n) = n := by
  induction n using Nat.strongRecOn with
  | _ n ih =>
    by_cases h : n = 0
    · subst h; rw [limbsOf_zero]; rfl
    · rw [limbsOf_pos h, val, ih (n / 1000000000) (by omega)]; omega
theorem dig_limbsOf (n : Nat) : Dig (limbsOf n) := by
  induction n using Nat.strongRecOn with
  | _ n ih =>
    by_cases h : n = 0
    · subst h; rw [limbsOf_zero]; exact Dig.nil
    · rw [limbsOf_pos h]; exact Dig.cons (by omega) (ih _ (by omega))
theorem limbsOf_eq_nil {n : Nat} : limbsOf n = [] ↔ n = 0 := by
  constructor
  · intro h
    have := val_limbsOf n
    rw [h] at this
    exact this.symm
  · rintro rfl; exact limbsOf_zero
/-- The highest limb is not nought. -/
theorem last_limbsOf (n : Nat) : (limbsOf n).getLast? ≠ some 0 := by
  induction n using Nat.strongRecOn with
  | _ n ih =>
    by_cases h : n = 0
    · subst h; rw [limbsOf_zero]; simp
    · rw [limbsOf_pos h]
      by_cases h2 : n / 1000000000 = 0
      · rw [h2, limbsOf_zero]; simp; omega
      · have := ih (n / 1000000000) (by omega)
        rw [List.getLast?_cons]
        cases hl : (limbsOf (n / 1000000000)).getLast? with
        | none =>
          rw [List.getLast?_eq_none_iff, limbsOf_eq_nil] at hl
          exact absurd hl h2
        | some a =>
          rw [hl] at this
          simpa using this
theorem eq_limbsOf : ∀ {L : List Nat}, Dig L → L.getLast? ≠ some 0 → L = limbsOf (val L)
  | [], _, _ => limbsOf_zero.symm
  | a :: L, h, hl => by
    have ha := h.head
    have hne : val (a :: L) ≠ 0 := by
      intro h0
      have hv : val L = 0 := by simp only [val] at h0; omega
      have ha0 : a = 0 := by simp only [val] at h0; omega
      cases L with
      | nil => subst ha0; simp at hl
      | cons b M =>
        have := eq_limbsOf (L := b :: M) h.tail (by simpa [List.getLast?_cons] using hl)
        rw [hv, limbsOf_zero] at this
        cases this
    rw [limbsOf_pos hne]
    have e1 : val (a :: L) % 1000000000 = a := by simp only [val]; omega
    have e2 : val (a :: L) / 1000000000 = val L := by simp only [val]; omega
    rw [e1, e2]
    congr 1
    cases L with
    | nil => exact limbsOf_zero.symm
    | cons b M => exact eq_limbsOf h.tail (by simpa [List.getLast?_cons] using hl)

def trimL (L : List Nat) : List Nat := (L.reverse.dropWhile (· == 0)).reverse
theorem trimL_snoc_zero (L : List Nat) : trimL (L ++ [0]) = trimL L := by simp [trimL]
theorem trimL_snoc {L : List Nat} {a : Nat} (h : a ≠ 0) : trimL (L ++ [a]) = L ++ [a] := by simp [trimL, h]
theorem trimL_nil : trimL [] = [] := rfl
theorem trimL_spec (L : List Nat) : Dig L → trimL L = limbsOf (val L) := by
  intro h
  generalize hn : L.length = n
  induction n generalizing L with
  | zero =>
    have : L = [] := List.eq_nil_of_length_eq_zero hn
    subst this
    exact limbsOf_zero.symm
  | succ n ih =>
    have hne : L ≠ [] := by intro h0; subst h0; simp at hn
    have hs := List.dropLast_concat_getLast hne
    rw [← hs] at h ⊢
    have hd : Dig L.dropLast := fun a ha => h a (List.mem_append_left _ ha)
    by_cases h0 : L.getLast hne = 0
    · rw [h0, trimL_snoc_zero, ih L.dropLast hd (by simp [hn]), val_snoc]
      simp
    · rw [trimL_snoc h0]
      exact eq_limbsOf h (by simp [h0])
theorem trimL_take (L : List Nat) (k : Nat) (h : k < L.length) (h0 : L.getD k 0 = 0) : trimL (L.take (k + 1)) = trimL (L.take k) := by
  rw [take_succ_getD L k h, h0, trimL_snoc_zero]
theorem trimL_stop (L : List Nat) (k : Nat) (h : k < L.length) (h0 : L.getD k 0 ≠ 0) : trimL (L.take (k + 1)) = L.take (k + 1) := by
  rw [take_succ_getD L k h, trimL_snoc h0]

/-! ## Order -/
theorem length_limbsOf_lt {n m : Nat} (h : (limbsOf n).length < (limbsOf m).length) : n < m := by
  have h1 := val_lt (dig_limbsOf n)
  rw [val_limbsOf] at h1
  -- m is at least 10^(9 (length - 1))
  have h2 : 1000000000 ^ ((limbsOf m).length - 1) ≤ m := by
    have hne : limbsOf m ≠ [] := by intro h0; rw [h0] at h; simp at h
    have hs := List.dropLast_concat_getLast hne
    have hlast : (limbsOf m).getLast hne ≠ 0 := fun h0 => last_limbsOf m (by rw [List.getLast?_eq_some_getLast hne, h0])
    have hv := val_limbsOf m
    rw [← hs, val_snoc, List.length_dropLast] at hv
    have : 1000000000 ^ ((limbsOf m).length - 1) * 1 ≤ 1000000000 ^ ((limbsOf m).length - 1) * (limbsOf m).getLast hne := Nat.mul_le_mul_left _ (by omega)
    omega
  have h3 : 1000000000 ^ (limbsOf n).length ≤ 1000000000 ^ ((limbsOf m).length - 1) := Nat.pow_le_pow_right (by decide) (by omega)
  omega
theorem length_limbsOf_le {n m : Nat} (h : n ≤ m) : (limbsOf n).length ≤ (limbsOf m).length := by
  rcases Nat.lt_or_ge (limbsOf m).length (limbsOf n).length with h' | h'
  · have := length_limbsOf_lt h'; omega
  · exact h'
theorem limbsOf_len_of_lt {n k : Nat} (h : n < 1000000000 ^ k) : (limbsOf n).length ≤ k := by
  rcases Nat.lt_or_ge k (limbsOf n).length with h' | h'
  · have hne : limbsOf n ≠ [] := by intro h0; rw [h0] at h'; simp at h'
    have hs := List.dropLast_concat_getLast hne
    have hlast : (limbsOf n).getLast hne ≠ 0 := fun h0 => last_limbsOf n (by rw [List.getLast?_eq_some_getLast hne, h0])
    have hv := val_limbsOf n
    rw [← hs, val_snoc, List.length_dropLast] at hv
    have h1 : 1000000000 ^ k ≤ 1000000000 ^ ((limbsOf n).length - 1) := Nat.pow_le_pow_right (by decide) (by omega)
    have h2 : 1000000000 ^ ((limbsOf n).length - 1) * 1 ≤ 1000000000 ^ ((limbsOf n).length - 1) * (limbsOf n).getLast hne := Nat.mul_le_mul_left _ (by omega)
    omega
  · exact h'
theorem lt_of_limbsOf_len {n k : Nat} (h : (limbsOf n).length ≤ k) : n < 1000000000 ^ k := by
  have h1 := val_lt (dig_limbsOf n)
  rw [val_limbsOf] at h1
  exact Nat.lt_of_lt_of_le h1 (Nat.pow_le_pow_right (by decide) h)
/-- -1, 0 or 1 -/
def cmpN (n m : Nat) : Int := if n < m then -1 else if m < n then 1 else 0
theorem cmpN_lt {n m : Nat} (h : n < m) : cmpN n m = -1 := if_pos h
theorem cmpN_gt {n m : Nat} (h : m < n) : cmpN n m = 1 := by unfold cmpN; rw [if_neg (by omega), if_pos h]
theorem cmpN_eq {n m : Nat} (h : n = m) : cmpN n m = 0 := by unfold cmpN; rw [if_neg (by omega), if_neg (by omega)]
theorem cmpN_range (n m : Nat) : -1 ≤ cmpN n m ∧ cmpN n m ≤ 1 := by unfold cmpN; split <;> (try split) <;> omega
theorem cmpN_neg {n m : Nat} : cmpN n m < 0 ↔ n < m := by unfold cmpN; split <;> (try split) <;> omega
theorem cmpN_pos {n m : Nat} : 0 < cmpN n m ↔ m < n := by unfold cmpN; split <;> (try split) <;> omega
theorem cmpN_zero {n m : Nat} : cmpN n m = 0 ↔ n = m := by unfold cmpN; split <;> (try split) <;> omega
/-- Lists of one length, alike from place k on: the limb ahead of k decides. -/
theorem val_lt_of_top {L M : List Nat} (hL : Dig L) (_hM : Dig M) (hlen : L.length = M.length) (k : Nat) (hk : k < L.length) (hd : L.drop (k + 1) = M.drop (k + 1)) (hlt : L.getD k 0 < M.getD k 0) : val L < val M := by
  rw [val_split L (k + 1) (by omega), val_split M (k + 1) (by omega), hd, val_take_succ L k hk, val_take_succ M k (by omega)]
  have h1 := val_lt (hL.take k)
  rw [List.length_take, Nat.min_eq_left (by omega)] at h1
  have h2 : 1000000000 ^ k * (L.getD k 0 + 1) ≤ 1000000000 ^ k * M.getD k 0 := Nat.mul_le_mul_left _ hlt
  rw [Nat.mul_add] at h2
  omega
theorem drop_getD_cons (L : List Nat) (k : Nat) (h : k < L.length) : L.drop k = L.getD k 0 :: L.drop (k + 1) := by
  rw [List.drop_eq_getElem_cons h]
  congr 1
  simp [List.getD_eq_getElem?_getD, h]
end Go.Nat9

/-! Plain facts for the walks through the naturals' functions: what a step of each loop keeps. No program here. -/
namespace Go.Nat9

theorem getD_of_ge (L : List Nat) (k : Nat) (h : L.length ≤ k) : L.getD k 0 = 0 := by
  rw [List.getD_eq_getElem?_getD, List.getElem?_eq_none h]; rfl
theorem val_take_succ' (L : List Nat) (k : Nat) : val (L.take (k + 1)) = val (L.take k) + 1000000000 ^ k * L.getD k 0 := by
  by_cases h : k < L.length
  · exact val_take_succ L k h
  · rw [getD_of_ge L k (by omega), List.take_of_length_le (by omega), List.take_of_length_le (by omega)]; omega
theorem val_take_all (L : List Nat) (k : Nat) (h : L.length ≤ k) : val (L.take k) = val L := by rw [List.take_of_length_le h]
/-- A limb put behind, the carry carried on. -/
theorem val_step {out : List Nat} {k : Nat} (hk : out.length = k) (t : Nat) : val (out ++ [t % 1000000000]) + 1000000000 ^ (k + 1) * (t / 1000000000) = val out + 1000000000 ^ k * t := by
  rw [val_snoc, hk, Nat.pow_succ, Nat.mul_assoc, Nat.add_assoc, ← Nat.mul_add, Nat.mod_add_div]
theorem carry_step {out : List Nat} {k V c t w : Nat} (hk : out.length = k) (h : val out + 1000000000 ^ k * c = V) (ht : t = c + w) :
    val (out ++ [t % 1000000000]) + 1000000000 ^ (k + 1) * (t / 1000000000) = V + 1000000000 ^ k * w := by
  rw [val_step hk, ht, Nat.mul_add, ← h, Nat.add_assoc]
theorem limbs_step {L out : List Nat} {k c t : Nat} (hk : out.length = k) (h : val out + 1000000000 ^ k * c = val (L.take k)) (ht : t = c + L.getD k 0) :
    val (out ++ [t % 1000000000]) + 1000000000 ^ (k + 1) * (t / 1000000000) = val (L.take (k + 1)) := by
  rw [carry_step hk h ht, val_take_succ']
theorem limbs_end {L out : List Nat} {k c : Nat} (hk : out.length = k) (hd : Dig out) (hl : k = L.length) (h : val out + 1000000000 ^ k * c = val (L.take k)) (hc : c < 1000000000) :
    trimL (out ++ [c]) = limbsOf (val L) := by
  rw [trimL_spec _ (hd.append (Dig.cons hc Dig.nil)), val_snoc, hk, h, val_take_all L k (by omega)]
theorem dig_snoc {out : List Nat} (h : Dig out) {t : Nat} (ht : t < 1000000000) : Dig (out ++ [t]) := h.append (Dig.cons ht Dig.nil)
theorem len_snoc (out : List Nat) (t : Nat) : (out ++ [t]).length = out.length + 1 := by simp
theorem plus_step {A C out : List Nat} {k c t : Nat} (hk : out.length = k) (h : val out + 1000000000 ^ k * c = val (A.take k) + val (C.take k)) (ht : t = A.getD k 0 + c + C.getD k 0) :
    val (out ++ [t % 1000000000]) + 1000000000 ^ (k + 1) * (t / 1000000000) = val (A.take (k + 1)) + val (C.take (k + 1)) := by
  rw [carry_step hk h (w := A.getD k 0 + C.getD k 0) (by omega), val_take_succ', val_take_succ', Nat.mul_add]; omega
theorem plus_end {A C out : List Nat} {k c : Nat} (hk : out.length = k) (hd : Dig out) (hl : k = A.length) (hC : C.length ≤ A.length) (h : val out + 1000000000 ^ k * c = val (A.take k) + val (C.take k)) (hc : c < 1000000000) :
    trimL (out ++ [c]) = limbsOf (val A + val C) := by
  rw [trimL_spec _ (hd.append (Dig.cons hc Dig.nil)), val_snoc, hk, h, val_take_all A k (by omega), val_take_all C k (by omega)]
theorem minus_step {A C out : List Nat} {k c c' d : Nat} (hk : out.length = k) (h : val (A.take k) + 1000000000 ^ k * c = val (C.take k) + val out) (hd : A.getD k 0 + 1000000000 * c' = C.getD k 0 + c + d) :
    val (A.take (k + 1)) + 1000000000 ^ (k + 1) * c' = val (C.take (k + 1)) + val (out ++ [d]) := by
  have e : 1000000000 ^ k * (A.getD k 0 + 1000000000 * c') = 1000000000 ^ k * (C.getD k 0 + c + d) := by rw [hd]
  rw [val_take_succ', val_take_succ', val_snoc, hk, Nat.pow_succ, Nat.mul_assoc]
  simp only [Nat.mul_add] at e
  omega
theorem minus_end {A C out : List Nat} {k c : Nat} (hk : out.length = k) (hd : Dig out) (hl : k = A.length) (hC : val C ≤ val A) (hCl : C.length ≤ A.length) (h : val (A.take k) + 1000000000 ^ k * c = val (C.take k) + val out) :
    trimL out = limbsOf (val A - val C) := by
  rw [val_take_all A k (by omega), val_take_all C k (by omega)] at h
  have h1 := val_lt hd
  rw [hk] at h1
  rw [trimL_spec _ hd]
  congr 1
  rcases Nat.eq_zero_or_pos c with h0 | h0
  · subst h0; omega
  · have : 1000000000 ^ k * 1 ≤ 1000000000 ^ k * c := Nat.mul_le_mul_left _ h0
    omega
theorem len_le_of_val_le {n m : Nat} (h : n ≤ m) : (limbsOf n).length ≤ (limbsOf m).length := length_limbsOf_le h

theorem take_set_same (L : List Nat) (k v : Nat) : (L.set k v).take k = L.take k := by
  apply List.ext_getElem?
  intro j
  rw [List.getElem?_take, List.getElem?_take]
  split
  · rw [List.getElem?_set_ne (by omega)]
  · rfl
theorem drop_set_same (L : List Nat) (k v : Nat) : (L.set k v).drop (k + 1) = L.drop (k + 1) := by
  apply List.ext_getElem?
  intro j
  rw [List.getElem?_drop, List.getElem?_drop, List.getElem?_set_ne (by omega)]
theorem val_set (L : List Nat) (k v : Nat) (h : k < L.length) : val (L.set k v) + 1000000000 ^ k * L.getD k 0 = val L + 1000000000 ^ k * v := by
  have h1 : (L.set k v).length = L.length := by simp
  rw [val_split (L.set k v) k (by omega), val_split L k (by omega), val_drop (L.set k v) k (by omega), val_drop L k h]
  have e1 := take_set_same L k v
  have e2 := drop_set_same L k v
  have e3 : (L.set k v).getD k 0 = v := by simp [List.getD_eq_getElem?_getD, h]
  rw [e1, e2, e3]
  simp only [Nat.mul_add]
  omega
theorem getD_set_ne (L : List Nat) (k j v : Nat) (h : k ≠ j) : (L.set k v).getD j 0 = L.getD j 0 := by
  simp [List.getD_eq_getElem?_getD, List.getElem?_set_ne h]
theorem times_step {out out' Bs : List Nat} {i j x c t V : Nat} (hlt : i + j < out.length) (h : val out + 1000000000 ^ (i + j) * c = V + 1000000000 ^ i * (x * val (Bs.take j)))
    (ht : t = c + x * Bs.getD j 0 + out.getD (i + j) 0) (ho : out' = out.set (i + j) (t % 1000000000)) :
    val out' + 1000000000 ^ (i + (j + 1)) * (t / 1000000000) = V + 1000000000 ^ i * (x * val (Bs.take (j + 1))) := by
  subst ho
  have h1 := val_set out (i + j) (t % 1000000000) hlt
  have h2 : 1000000000 ^ (i + (j + 1)) * (t / 1000000000) = 1000000000 ^ (i + j) * (1000000000 * (t / 1000000000)) := by
    rw [show i + (j + 1) = (i + j) + 1 from by omega, Nat.pow_succ, Nat.mul_assoc]
  have h3 : 1000000000 ^ (i + j) * (t % 1000000000 + 1000000000 * (t / 1000000000)) = 1000000000 ^ (i + j) * (c + x * Bs.getD j 0 + out.getD (i + j) 0) := by
    rw [Nat.mod_add_div, ht]
  have h4 : 1000000000 ^ i * (x * val (Bs.take (j + 1))) = 1000000000 ^ i * (x * val (Bs.take j)) + 1000000000 ^ (i + j) * (x * Bs.getD j 0) := by
    rw [val_take_succ', Nat.mul_add, Nat.mul_add, Nat.pow_add]
    congr 1
    rw [Nat.mul_left_comm x, ← Nat.mul_assoc (1000000000 ^ i)]
  rw [h2, h4]
  simp only [Nat.mul_add] at h3
  omega
theorem times_carry {x y o c : Nat} (hx : x < 1000000000) (hy : y < 1000000000) (ho : o < 1000000000) (hc : c < 1000000000) : c + x * y + o < 1000000000 * 1000000000 := by
  have : x * y ≤ 999999999 * 999999999 := Nat.mul_le_mul (by omega) (by omega)
  omega
theorem times_outer {out out' A Bs : List Nat} {i x c : Nat} (hlt : i + Bs.length < out.length) (hx : x = A.getD i 0)
    (h : val out + 1000000000 ^ (i + Bs.length) * c = val (A.take i) * val Bs + 1000000000 ^ i * (x * val (Bs.take Bs.length))) (h0 : out.getD (i + Bs.length) 0 = 0)
    (ho : out' = out.set (i + Bs.length) c) : val out' = val (A.take (i + 1)) * val Bs := by
  subst ho hx
  have h1 := val_set out (i + Bs.length) c hlt
  rw [h0] at h1
  rw [val_take_succ', Nat.add_mul, Nat.mul_assoc]
  rw [List.take_length] at h
  omega

theorem short_step {A out : List Nat} {k r d t : Nat} (hk : k < A.length) (hl : out.length = A.length) (h : val (A.drop (k + 1)) = d * val (out.drop (k + 1)) + r) (_hd : 0 < d) (ht : t = r * 1000000000 + A.getD k 0) :
    val (A.drop k) = d * val ((out.set k (t / d)).drop k) + t % d := by
  rw [val_drop A k hk, val_drop (out.set k (t / d)) k (by simp; omega), h]
  have e2 := drop_set_same out k (t / d)
  have e3 : (out.set k (t / d)).getD k 0 = t / d := by simp [List.getD_eq_getElem?_getD, show k < out.length from by omega]
  rw [e2, e3, Nat.mul_add d]
  have := Nat.div_add_mod t d
  have e4 : d * (1000000000 * val (out.drop (k + 1))) = 1000000000 * (d * val (out.drop (k + 1))) := by rw [Nat.mul_left_comm]
  omega
theorem short_lt {r d a : Nat} (hr : r < d) (ha : a < 1000000000) : (r * 1000000000 + a) / d < 1000000000 := by
  rw [Nat.div_lt_iff_lt_mul (by omega)]
  have : (r + 1) * 1000000000 ≤ d * 1000000000 := Nat.mul_le_mul_right _ hr
  omega
theorem short_div {V d q r : Nat} (h : V = d * q + r) (hr : r < d) : q = V / d ∧ r = V % d := by
  subst h
  have hd : 0 < d := by omega
  constructor
  · rw [Nat.mul_add_div hd, Nat.div_eq_of_lt hr]; rfl
  · rw [Nat.mul_add_mod, Nat.mod_eq_of_lt hr]

theorem val_of3 (n : Nat) : val [n % 1000000000, n / 1000000000 % 1000000000, n / 1000000000 / 1000000000] = n := by
  simp only [val]; omega
theorem limbsOf_len_pos {n : Nat} (h : 0 < n) : 0 < (limbsOf n).length := by
  rw [List.length_pos_iff]; intro h0; rw [limbsOf_eq_nil] at h0; omega
theorem limbsOf_top {n : Nat} (h : 0 < n) : 0 < (limbsOf n).getD ((limbsOf n).length - 1) 0 := by
  have hp := limbsOf_len_pos h
  have := last_limbsOf n
  rw [List.getLast?_eq_getElem?] at this
  rw [List.getD_eq_getElem?_getD]
  rw [List.getElem?_eq_getElem (by omega)] at this ⊢
  simp at this ⊢
  omega
theorem limbsOf_inj {n m : Nat} (h : limbsOf n = limbsOf m) : n = m := by rw [← val_limbsOf n, h, val_limbsOf]
theorem limbsOf_one {d : Nat} (h : 0 < d) (hd : d < 1000000000) : limbsOf d = [d] := by
  rw [limbsOf_pos (by omega), Nat.mod_eq_of_lt hd, Nat.div_eq_of_lt hd, limbsOf_zero]
theorem limbsOf_single {n : Nat} (h : (limbsOf n).length = 1) : n < 1000000000 ∧ limbsOf n = [n] := by
  have h1 := lt_of_limbsOf_len (n := n) (k := 1) (by omega)
  have h2 : 0 < n := by
    rcases Nat.eq_zero_or_pos n with h0 | h0
    · subst h0; rw [limbsOf_zero] at h; simp at h
    · exact h0
  exact ⟨by omega, limbsOf_one h2 (by omega)⟩
theorem val_drop_zero (L : List Nat) : val (L.drop 0) = val L := by simp
theorem val_drop_all (L : List Nat) : val (L.drop L.length) = 0 := by simp [val]
/-- Two lists of one length: equal from place k+1 on, and a lesser limb at k. -/
theorem cmp_top {n m : Nat} (hlen : (limbsOf n).length = (limbsOf m).length) (k : Nat) (hk : k < (limbsOf n).length) (hd : (limbsOf n).drop (k + 1) = (limbsOf m).drop (k + 1))
    (hlt : (limbsOf n).getD k 0 < (limbsOf m).getD k 0) : n < m := by
  have := val_lt_of_top (dig_limbsOf n) (dig_limbsOf m) hlen k hk hd hlt
  rwa [val_limbsOf, val_limbsOf] at this
theorem cmp_drop {n m : Nat} (hlen : (limbsOf n).length = (limbsOf m).length) (k : Nat) (hk : k < (limbsOf n).length) (hd : (limbsOf n).drop (k + 1) = (limbsOf m).drop (k + 1))
    (he : (limbsOf n).getD k 0 = (limbsOf m).getD k 0) : (limbsOf n).drop k = (limbsOf m).drop k := by
  rw [drop_getD_cons _ k hk, drop_getD_cons _ k (by omega), hd, he]
theorem cmp_all {n m : Nat} (hd : (limbsOf n).drop 0 = (limbsOf m).drop 0) : n = m := limbsOf_inj (by simpa using hd)
end Go.Nat9

/- The program logic's rules for struct and slice literals, and slices of limbs as one thing. -/
namespace Go.Fw
open Go Go.RowKit

def getP : List (Nat × Nat) → Nat → Option (Nat × Nat)
  | [], _ => none
  | p :: _, 0 => some p
  | _ :: l, n + 1 => getP l n
theorem getP_eq : ∀ (l : List (Nat × Nat)) (i : Nat), getP l i = l[i]?
  | [], _ => by simp [getP]
  | _ :: _, 0 => by simp [getP]
  | _ :: l, n + 1 => by simpa [getP] using getP_eq l n
/-- A literal's parts, one after the other, over the zero cells. -/
def fillS (offs : List (Nat × Nat)) (cs : List Value) : List (Nat × List Value) → Option (List Value)
  | [] => some cs
  | (i, vs) :: rest => match getP offs i with
    | none => none
    | some (o, s) => bif Nat.beq vs.length s && Nat.ble (o + s) cs.length then fillS offs (setAll cs o vs) rest else none
theorem foldl_set_eq : ∀ (vs : List Value) (a : Array Value) (o k : Nat), (vs.zipIdx k).foldl (fun (cs : Array Value) (x : Value × Nat) => cs.setIfInBounds (o + x.2) x.1) a = (setAll a.toList (o + k) vs).toArray
  | [], a, o, k => by simp [setAll]
  | v :: vs, a, o, k => by
    rw [List.zipIdx_cons, List.foldl_cons, foldl_set_eq vs _ o (k + 1), setAll]
    congr 2
    rw [updL_set]; simp
theorem fill_step {place : Nat → Option (Nat × Nat)} {i o s : Nat} {v : Value} {vs cs : List Value} {rest : List (Nat × Value)} (hp : place i = some (o, s)) (hv : v.cells = vs.toArray) (hs : vs.length = s) (ho : o + s ≤ cs.length) :
    Instr.fill place cs.toArray ((i, v) :: rest) = Instr.fill place (setAll cs o vs).toArray rest := by
  rw [Instr.fill, hp]
  simp only [hv]
  rw [if_neg (by simp [hs]; omega)]
  congr 1
  have h := foldl_set_eq vs cs.toArray o 0
  rw [Nat.add_zero] at h
  simpa using h
theorem fill_eq {place : Nat → Option (Nat × Nat)} {offs : List (Nat × Nat)} (hpl : ∀ i, place i = offs[i]? ∨ offs[i]? = none) : ∀ {pv : List (Nat × Value)} {pvs : List (Nat × List Value)} {cs r : List Value},
    pv.map Prod.fst = pvs.map Prod.fst → pv.map (fun p => p.2.cells) = pvs.map (fun p => p.2.toArray) → fillS offs cs pvs = some r → Instr.fill place cs.toArray pv = some r.toArray
  | [], [], cs, r, _, _, h => by simp [fillS] at h; subst h; rfl
  | [], _ :: _, _, _, h, _, _ => by simp at h
  | _ :: _, [], _, _, h, _, _ => by simp at h
  | (i, v) :: pv, (j, vs) :: pvs, cs, r, h1, h2, h => by
    simp at h1 h2
    obtain ⟨rfl, h1⟩ := h1
    rw [fillS] at h
    cases hg : getP offs i with
    | none => rw [hg] at h; simp at h
    | some q =>
      obtain ⟨o, s⟩ := q
      rw [hg] at h
      simp only at h
      cases hc : (Nat.beq vs.length s && Nat.ble (o + s) cs.length) with
      | false => rw [hc] at h; simp at h
      | true =>
        rw [hc] at h
        simp only [cond_true] at h
        have hc' := hc
        rw [Bool.and_eq_true] at hc'
        have e1 : vs.length = s := Nat.eq_of_beq_eq_true hc'.1
        have e2 : o + s ≤ cs.length := Nat.le_of_ble_eq_true hc'.2
        have hpi : place i = some (o, s) := by
          rcases hpl i with h' | h'
          · rw [h', ← getP_eq, hg]
          · rw [← getP_eq, hg] at h'; cases h'
        rw [fill_step hpi h2.1 e1 e2]
        exact fill_eq hpl (by simpa using h1) (by simpa using h2.2) h
/-- A literal's parts, read off the frame. -/
def EvParts (fr : Fr) : List (Nat × Operand) → List (Nat × List Value) → Prop
  | [], l => l = []
  | p :: ps, l => match l with
    | [] => False
    | q :: qs => (p.1 = q.1 ∧ ∃ v, Ev fr p.2 v ∧ v.cells = q.2.toArray) ∧ EvParts fr ps qs
theorem EvParts.eq {fr : Fr} : ∀ {ps : List (Nat × Operand)} {qs : List (Nat × List Value)}, EvParts fr ps qs →
    (ps.map fun p => (p.1, ev fr p.2)).map Prod.fst = qs.map Prod.fst ∧ (ps.map fun p => (p.1, ev fr p.2)).map (fun p => p.2.cells) = qs.map (fun p => p.2.toArray)
  | [], _, h => by rw [show _ = [] from h]; simp
  | p :: ps, [], h => h.elim
  | p :: ps, q :: qs, h => by
    obtain ⟨⟨h1, v, h2, h3⟩, h4⟩ := h
    have ih := EvParts.eq h4
    simp only [List.map_cons, List.cons.injEq]
    refine ⟨⟨h1, ih.1⟩, ?_, ih.2⟩
    show (ev fr p.2).cells = _
    rw [h2.eq, h3]
/-- The fields' places and the zero cells of a struct type. -/
def stOf (P : Program) (T : TypeId) : Option (List (Nat × Nat) × List Value) :=
  match P.underlying T, P.info? T with
  | some (.struct fields), some i => match i.zero, (fields.toList.mapM fun f => (P.info? f.type).map fun i => (f.offset, i.size)) with
    | some z, some l => some (l, z.cells.toList)
    | _, _ => none
  | _, _ => none
theorem mapM_places {P : Program} {w : World} : ∀ {fs : List Field} {l : List (Nat × Nat)}, (fs.mapM fun f => (P.info? f.type).map fun i => (f.offset, i.size)) = some l →
    (fs.mapM fun f => (do pure (f.offset, ← sizeOf f.type) : Sem (Nat × Nat))).run P w = .ok l w
  | [], l, h => by simp at h; subst h; rfl
  | f :: fs, l, h => by
    rw [List.mapM_cons] at h
    cases hi : P.info? f.type with
    | none => simp [hi] at h
    | some i =>
      cases hr : (fs.mapM fun f => (P.info? f.type).map fun i => (f.offset, i.size)) with
      | none => simp [hi, hr] at h
      | some l' =>
        simp [hi, hr] at h
        subst h
        rw [List.mapM_cons]
        have ih := mapM_places (w := w) hr
        simp only [Sem.run_bind, sizeOf, typeInfo, run_program, hi, Result.andThen_ok, Sem.run_pure] at ih ⊢
        simp only [ih, Result.andThen_ok]

section
variable {P : Program} {Q : Exit → Act → World → Prop} {w0 : Ctx} {σ σ' : List Res} {φ φ' : List (Bool × VP)} {fr : Fr} {ops : Array Oper} {rest : List Oper}
  {d : Nat} {ty : TypeId} {pos : String} {aft : Array Edge}
/-- 'T{..}' -/
theorem JL_build {T : TypeId} {offs : List (Nat × Nat)} {zs cs : List Value} {parts : List (Nat × Operand)} (pvs : List (Nat × List Value)) (hs : stOf P T = some (offs, zs)) (hp : EvParts fr parts pvs) (hf : fillS offs zs pvs = some cs)
    (k : JL P ops Q w0 σ φ rest (upd fr d (.agg cs.toArray))) : JL P ops Q w0 σ φ (⟨some d, .build T parts.toArray, ty, pos, aft, none⟩ :: rest) fr := by
  refine JL_pure _ (fun w => ?_) k
  unfold stOf at hs
  split at hs
  · rename_i fields i hu hi
    split at hs
    · rename_i z l hz hl
      simp only [Option.some.injEq, Prod.mk.injEq] at hs
      obtain ⟨rfl, rfl⟩ := hs
      obtain ⟨e1, e2⟩ := hp.eq
      have hm := mapM_places (P := P) (w := w) hl
      have hm' : (fields.mapM fun f => (do pure (f.offset, ← sizeOf f.type) : Sem (Nat × Nat))).run P w = .ok l.toArray w := by
        rw [show fields = fields.toList.toArray from (Array.toArray_toList).symm, List.mapM_toArray, Sem.run_map, hm]; rfl
      have hfill := fill_eq (place := (l.toArray[·]?)) (offs := l) (fun i => .inl (by simp)) e1 e2 hf
      simp only [execOp, List.map_toArray, Instr.build, Sem.run_bind, zeroValue, typeInfo, run_program, hi, hz, Result.andThen_ok, Sem.run_pure, run_underlying hu, hm'] 
      simp only [Array.toArray_toList] at hfill
      rw [hfill]
      simp
    · cases hs
  · cases hs
/-- '[]T{..}' -/
theorem JL_buildN {t e : TypeId} {sz by' n : Nat} {zs cs0 cs : List Value} {parts : List (Nat × Operand)} (pvs : List (Nat × List Value)) (hs : slOf P t = some (e, sz, by', zs)) (hz : (Array.range (n * sz)).map (zs.toArray[· % zs.toArray.size]!) = cs0.toArray)
    (hp : EvParts fr parts pvs) (hf : fillS ((List.range n).map fun i => (i * sz, sz)) cs0 pvs = some cs) (hsmall : Nat.ble (n * sz) 16777216 = true) (hsmall2 : Nat.ble n 16777216 = true) (hlen : cs.length = n * sz)
    (k : ∀ g, JL P ops Q w0 (σ ++ [osl (some ⟨g, 0, none⟩) n n e sz cs]) φ rest (upd fr d (.slice (some ⟨g, 0, none⟩) n n))) :
    JL P ops Q w0 σ φ (⟨some d, .buildSlice t n parts.toArray, ty, pos, aft, none⟩ :: rest) fr := by
  obtain ⟨e1, e2⟩ := hp.eq
  refine JL_buildSlice (pv := parts.map fun p => (p.1, ev fr p.2)) (vs := cs) hs (by simp) (Nat.le_of_ble_eq_true hsmall) (Nat.le_of_ble_eq_true hsmall2) hlen ?_ k
  rw [hz]
  refine fill_eq (offs := (List.range n).map fun i => (i * sz, sz)) (fun i => ?_) e1 e2 hf
  by_cases hi : i < n
  · left; simp [hi]
  · right; simp; omega
end

/-! ## A slice of limbs as one thing -/
structure Sl where
  ad : Option Addr
  cap : Nat
  L : List Nat
abbrev Sl.v (s : Sl) : Value := .slice s.ad s.L.length s.cap
abbrev Sl.w (s : Sl) : VP := vCells s.ad (u32s s.L)
abbrev Sl.n (s : Sl) : Value := .agg #[.slice s.ad s.L.length s.cap]
def Sl.ok (s : Sl) : Prop := s.L.length ≤ s.cap ∧ s.cap ≤ 9223372036854775807
def Sl.nil : Sl := ⟨none, 0, []⟩
theorem Sl.nil_ok : Sl.nil.ok := ⟨Nat.le_refl _, Nat.zero_le _⟩
/-- A natural that is n, in canonical limbs. -/
def Sl.is (s : Sl) (n : Nat) : Prop := s.L = Nat9.limbsOf n
/-- Limbs as the machine holds them. -/
def U32 (L : List Nat) : Prop := ∀ a ∈ L, a < 4294967296
theorem U32.getD {L : List Nat} (h : U32 L) (k : Nat) : L.getD k 0 < 4294967296 := by
  rw [List.getD_eq_getElem?_getD]
  cases hk : L[k]? with
  | none => simp
  | some a => exact h a (List.mem_of_getElem? hk)
theorem U32.ofDig {L : List Nat} (h : Nat9.Dig L) : U32 L := fun a ha => Nat.lt_trans (h a ha) (by decide)
/-- A fraction's parts. -/
structure Fq where
  neg : Bool
  num : Sl
  den : Sl
abbrev Fq.v (x : Fq) : Value := .agg #[.bool x.neg, .slice x.num.ad x.num.L.length x.num.cap, .slice x.den.ad x.den.L.length x.den.cap]
/-- New views ahead of the old ones. -/
abbrev mapB (b : Bool) : List VP → List (Bool × VP) → List (Bool × VP)
  | [], φ => φ
  | p :: l, φ => (b, p) :: mapB b l φ
theorem mapB_eq (b : Bool) : ∀ (l : List VP) (φ : List (Bool × VP)), mapB b l φ = l.map (fun p => (b, p)) ++ φ
  | [], _ => rfl
  | p :: l, φ => congrArg ((b, p) :: ·) (mapB_eq b l φ)
theorem mapB_l {b : Bool} {l : List VP} {φ : List (Bool × VP)} {p : VP} (h : p ∈ l) : (b, p) ∈ mapB b l φ := by rw [mapB_eq]; exact List.mem_append_left _ (List.mem_map.2 ⟨p, h, rfl⟩)
theorem mapB_r {b : Bool} {l : List VP} {φ : List (Bool × VP)} {p : Bool × VP} (h : p ∈ φ) : p ∈ mapB b l φ := by rw [mapB_eq]; exact List.mem_append_right _ h
section
variable {w0 : Ctx} {σ : List Res} {φ : List (Bool × VP)}
theorem nil_view {w : World} {X : Nat → Prop} : Sl.nil.w.holds X w := by
  intro j u hj; simp [Sl.nil, u32s] at hj
end
section
variable {P : Program} {Q : Exit → Act → World → Prop} {w0 : Ctx} {σ σ' : List Res} {φ φ' : List (Bool × VP)} {fr : Fr} {ops : Array Oper} {rest : List Oper}
  {d : Nat} {ty : TypeId} {pos : String} {aft : Array Edge}
theorem JL_callF' {f : FuncId} {x : Operand} {xs : List Operand} {ts : Array TypeId} {vs : List Value} {φin : List VP} {Post : Value → List VP → Prop}
    (hin : Asks w0 σ φ φin) (con : ConF P f vs φin Post) (hf : Ev fr x (.func (.func f) #[] #[])) (hc : callable P f = true) (ha : EvL fr xs vs)
    (k : ∀ v φo, Post v φo → JL P ops Q w0 σ (mapB true φo φ) rest (upd fr d v)) :
    JL P ops Q w0 σ φ (⟨some d, .call { callee := .value x, args := xs.toArray, argTypes := ts }, ty, pos, aft, none⟩ :: rest) fr := JL_callF con hf hc ha hin fun v φo h => mapB_eq true φo φ ▸ k v φo h
theorem JL_callA' {f : FuncId} {x : Operand} {xs : List Operand} {ts : Array TypeId} {vs : List Value} {φin : List VP} {Post : Value → List VP → Prop} (b : Bool)
    (hin : AsksA w0 σ φ b φin) (con : ConA P f vs φin Post) (hf : Ev fr x (.func (.func f) #[] #[])) (hc : callable P f = true) (ha : EvL fr xs vs)
    (k : ∀ v φo, Post v φo → JL P ops Q w0 σ (mapB b φo φ) rest (upd fr d v)) :
    JL P ops Q w0 σ φ (⟨some d, .call { callee := .value x, args := xs.toArray, argTypes := ts }, ty, pos, aft, none⟩ :: rest) fr := JL_callA b con hf hc ha hin fun v φo h => mapB_eq b φo φ ▸ k v φo h
theorem JL_splitEqB {a b : Bool} {l : List Oper} (ht : a = b → JL P ops Q w0 σ φ l (upd fr d (.bool true))) (hf : a ≠ b → JL P ops Q w0 σ φ l (upd fr d (.bool false))) : JL P ops Q w0 σ φ l (upd fr d (.bool (a == b))) := by
  by_cases h : a = b
  · rw [beq_iff_eq.2 h]; exact ht h
  · rw [beq_eq_false_iff_ne.2 h]; exact hf h
theorem JL_splitNeB {a b : Bool} {l : List Oper} (ht : a ≠ b → JL P ops Q w0 σ φ l (upd fr d (.bool true))) (hf : a = b → JL P ops Q w0 σ φ l (upd fr d (.bool false))) : JL P ops Q w0 σ φ l (upd fr d (.bool (a != b))) := by
  by_cases h : a = b
  · rw [show (a != b) = false from by simp [h]]; exact hf h
  · rw [show (a != b) = true from by simp [h]]; exact ht h
/-- A slot's truth value, known or not, taken apart. -/
theorem JL_splitV {b : Bool} {l : List Oper} (ht : b = true → JL P ops Q w0 σ φ l (upd fr d (.bool true))) (hf : b = false → JL P ops Q w0 σ φ l (upd fr d (.bool false))) : JL P ops Q w0 σ φ l (upd fr d (.bool b)) := by
  cases b with
  | true => exact ht rfl
  | false => exact hf rfl
theorem JC_drawT {n : Nat} {b : List Value} (hm : P.follows .mixedOrders = true) {id : Nat} {l : List Oper} (np : Nat) (ss : List Sp) (hob : OblsS P l w0 σ φ n b ss ss l) (hok : drawOk l np (ss.map fun s => (s.d, s.preds)) = true)
    (hfin : ∀ vals bs, JL P l.toArray Q w0 (σ ++ madeS bs ss 0) (allPosts vals ss 0 ++ φ) (l.drop np) ⟨n, pendsF vals bs ss 0, b⟩) :
    JC P (.region id l.toArray true) Q w0 σ φ ⟨n, [], b⟩ := JC_drawS hm np n ss hok hob hfin
theorem JL_storeU {T E : TypeId} {x y : Operand} {ad : Option Addr} {n cap j : Nat} {L : List Nat} {a : Int} (i v : Nat) (hT : tyOf P T = some (false, 1)) (hx : Ev fr x (ptrAt ad j)) (hy : Ev fr y (.int .u32 a))
    (hσ : Nth σ i (osl ad n cap E 1 (u32s L))) (hv : a = (v : Int)) (hj : j < L.length) (k : JL P ops Q w0 (updL σ i (osl ad n cap E 1 (u32s (L.set j v)))) φ rest fr) : JL P ops Q w0 σ φ (⟨none, .store T x y, ty, pos, aft, none⟩ :: rest) fr := by
  subst hv
  refine JL_storeE (vs := [.int .u32 (v : Int)]) i hT (Nat.lt_succ_self 0) hx hy rfl (AllOne.cons rfl AllOne.nil) hσ (by rw [u32s_length]; exact hj) ?_
  rw [u32s_set]; exact k
theorem JL_storeI {T E : TypeId} {x y : Operand} {ad : Option Addr} {n cap j : Nat} {L : List Int} {a : Int} (i : Nat) (hT : tyOf P T = some (false, 1)) (hx : Ev fr x (ptrAt ad j)) (hy : Ev fr y (.int .i64 a))
    (hσ : Nth σ i (osl ad n cap E 1 (i64s L))) (hj : j < L.length) (k : JL P ops Q w0 (updL σ i (osl ad n cap E 1 (i64s (L.set j a)))) φ rest fr) : JL P ops Q w0 σ φ (⟨none, .store T x y, ty, pos, aft, none⟩ :: rest) fr := by
  refine JL_storeE (vs := [.int .i64 a]) i hT (Nat.lt_succ_self 0) hx hy rfl (AllOne.cons rfl AllOne.nil) hσ (by rw [i64s_length]; exact hj) ?_
  rw [i64s_set]; exact k
theorem JC_cutT {x y : Code} (ι : Type) (C : ι → Prop) (ov : (Nat → Value) → ι → List (Option Value)) (os : ι → List (Option Res)) (fv : ι → List (Bool × VP))
    (h1 : JC P x (MidS w0 σ φ fr C ov os fv Q) w0 σ φ fr) (h2 : ∀ u i, C i → JC P y Q w0 (mix σ (os i)) (fv i ++ φ) (mixF fr (ov u i))) : JC P x (Then P y Q) w0 σ φ fr := by
  intro w st
  refine wp_mono (h1 w st) ?_
  intro e a w' h
  cases e with
  | normal =>
    obtain ⟨i, hC, rfl, hs⟩ := h
    exact h2 i.1 i.2 hC w' hs
  | _ => exact h
theorem JE_nilView {e : Exit} (k : JE Q e w0 σ ((true, vCells none (u32s [])) :: φ) fr) : JE Q e w0 σ φ fr := JE_addView (fun _ _ => nil_view) k
theorem JL_nilView {l : List Oper} (k : JL P ops Q w0 σ ((true, vCells none (u32s [])) :: φ) l fr) : JL P ops Q w0 σ φ l fr := JL_addView (fun _ _ => nil_view) k
theorem JC_nilView {c : Code} (k : JC P c Q w0 σ ((true, vCells none (u32s [])) :: φ) fr) : JC P c Q w0 σ φ fr := JC_addView (fun _ _ => nil_view) k
end
end Go.Fw

/- Plain facts for long division and for the values of limbs. No program here. -/
namespace Go.Nat9

theorem Bpos (k : Nat) : 0 < 1000000000 ^ k := Nat.pow_pos (by decide)
theorem val_drop_div {L : List Nat} (h : Dig L) (j : Nat) : val (L.drop j) = val L / 1000000000 ^ j := by
  by_cases hj : j ≤ L.length
  · have h1 := val_lt (h.take j)
    rw [List.length_take, Nat.min_eq_left hj] at h1
    rw [val_split L j hj, Nat.add_comm, Nat.mul_add_div (Bpos j), Nat.div_eq_of_lt h1]; rfl
  · rw [List.drop_of_length_le (by omega)]
    have h1 := val_lt h
    have h2 : 1000000000 ^ L.length ≤ 1000000000 ^ j := Nat.pow_le_pow_right (by decide) (by omega)
    rw [Nat.div_eq_of_lt (by omega)]; rfl
theorem top1 {L : List Nat} (h : Dig L) {k : Nat} (hk : L.length = k + 1) : L.getD k 0 = val L / 1000000000 ^ k := by
  rw [← val_drop_div h, drop_getD_cons L k (by omega), List.drop_of_length_le (by omega)]; simp [val]
theorem top2 {L : List Nat} (h : Dig L) {k : Nat} (hk : L.length = k + 2) : L.getD (k + 1) 0 * 1000000000 + L.getD k 0 = val L / 1000000000 ^ k := by
  rw [← val_drop_div h, drop_getD_cons L k (by omega), drop_getD_cons L (k + 1) (by omega), List.drop_of_length_le (by omega)]; simp [val]; omega
theorem top1' {x k i : Nat} (hi : i = k) (hk : (limbsOf x).length = k + 1) : (limbsOf x).getD i 0 = x / 1000000000 ^ k := by
  subst hi; rw [top1 (dig_limbsOf x) hk, val_limbsOf]
theorem top2' {x k i j : Nat} (hi : i = k + 1) (hj : j = k) (hk : (limbsOf x).length = k + 2) : (limbsOf x).getD i 0 * 1000000000 + (limbsOf x).getD j 0 = x / 1000000000 ^ k := by
  subst hi hj; rw [top2 (dig_limbsOf x) hk, val_limbsOf]
theorem top_lt {P V : Nat} (hV : 0 < V) (hP : P < V * 1000000000) : P / 1000000000 ^ ((limbsOf V).length - 1) < 18446744073709551616 := by
  have h1 := lt_of_limbsOf_len (n := V) (Nat.le_refl _)
  have h2 := limbsOf_len_pos hV
  have h3 : 1000000000 ^ (limbsOf V).length = 1000000000 ^ ((limbsOf V).length - 1) * 1000000000 := by rw [← Nat.pow_succ]; congr 1; omega
  rw [h3] at h1
  have h4 : P / 1000000000 ^ ((limbsOf V).length - 1) < 1000000000 * 1000000000 := by
    rw [Nat.div_lt_iff_lt_mul (Bpos _)]
    generalize 1000000000 ^ ((limbsOf V).length - 1) = b at h1 ⊢
    omega
  omega
/-- The guess is not too small. -/
theorem guess_ge {P V top vt k : Nat} (hV : 0 < V) (hP : P < V * 1000000000) (ht : top = P / 1000000000 ^ k) (hv : vt = V / 1000000000 ^ k) (hvt : 0 < vt) : P / V ≤ min (top / vt) 999999999 := by
  have h1 : P / V < 1000000000 := by rw [Nat.div_lt_iff_lt_mul hV, Nat.mul_comm]; exact hP
  have h2 : P / V ≤ top / vt := by
    rw [Nat.le_div_iff_mul_le hvt, ht, Nat.le_div_iff_mul_le (Bpos k), hv]
    calc P / V * (V / 1000000000 ^ k) * 1000000000 ^ k = P / V * (V / 1000000000 ^ k * 1000000000 ^ k) := Nat.mul_assoc _ _ _
      _ ≤ P / V * V := Nat.mul_le_mul_left _ (Nat.div_mul_le_self _ _)
      _ ≤ P := Nat.div_mul_le_self _ _
  omega
/-- What one turn of the long division keeps. -/
structure DivInv (N V lq : Nat) (U q : List Nat) (j : Nat) : Prop where
  du : Dig U
  dq : Dig q
  lq : q.length = lq
  zero : ∀ i, i < j → q.getD i 0 = 0
  eq : N = V * (1000000000 ^ j * val (q.drop j)) + val U
  lt : val U < V * 1000000000 ^ j
theorem DivInv.part_lt {N V lq : Nat} {U q : List Nat} {j : Nat} (h : DivInv N V lq U q (j + 1)) : val (U.drop j) < V * 1000000000 := by
  rw [val_drop_div h.du, Nat.div_lt_iff_lt_mul (Bpos j), Nat.mul_assoc, Nat.mul_comm 1000000000, ← Nat.pow_succ]; exact h.lt
theorem DivInv.skip {N V lq : Nat} {U q : List Nat} {j : Nat} (h : DivInv N V lq U q (j + 1)) (hj : j < lq) (hP : val (U.drop j) < V) : DivInv N V lq U q j where
  du := h.du
  dq := h.dq
  lq := h.lq
  zero := fun i hi => h.zero i (by omega)
  eq := by
    have h0 : j < q.length := by rw [h.lq]; exact hj
    rw [val_drop q j h0, h.zero j (by omega), Nat.zero_add, ← Nat.mul_assoc (1000000000 ^ j), ← Nat.pow_succ]; exact h.eq
  lt := by rw [val_drop_div h.du, Nat.div_lt_iff_lt_mul (Bpos j)] at hP; exact hP
theorem DivInv.put {N V lq : Nat} {U q : List Nat} {j g : Nat} (h : DivInv N V lq U q (j + 1)) (hj : j < lq) (hju : j ≤ U.length) (hg : g = val (U.drop j) / V) (hV : 0 < V) :
    DivInv N V lq (U.take j ++ limbsOf (val (U.drop j) - V * g)) (q.set j g) j := by
  have hg9 : g < 1000000000 := by rw [hg, Nat.div_lt_iff_lt_mul hV, Nat.mul_comm]; exact h.part_lt
  have h0 : j < q.length := by rw [h.lq]; exact hj
  have hval : val (U.take j ++ limbsOf (val (U.drop j) - V * g)) = val (U.take j) + 1000000000 ^ j * (val (U.drop j) - V * g) := by
    rw [val_append, val_limbsOf, List.length_take, Nat.min_eq_left hju]
  have hle : V * g ≤ val (U.drop j) := by rw [hg]; exact Nat.mul_div_le _ _
  have hrem : val (U.drop j) - V * g < V := by
    have := Nat.mod_lt (val (U.drop j)) hV
    have e := Nat.div_add_mod (val (U.drop j)) V
    rw [← hg] at e; omega
  have hlow := val_lt (h.du.take j)
  rw [List.length_take, Nat.min_eq_left hju] at hlow
  refine ⟨(h.du.take j).append (dig_limbsOf _), h.dq.set j g hg9, by rw [List.length_set]; exact h.lq, ?_, ?_, ?_⟩
  · intro i hi; rw [getD_set_ne _ _ _ _ (by omega)]; exact h.zero i (by omega)
  · rw [hval, h.eq, val_drop (q.set j g) j (by rw [List.length_set]; exact h0)]
    have e2 := drop_set_same q j g
    have e3 : (q.set j g).getD j 0 = g := by simp [List.getD_eq_getElem?_getD, h0]
    rw [e2, e3]
    have e4 : val U = val (U.take j) + 1000000000 ^ j * val (U.drop j) := val_split U j hju
    have e5 : 1000000000 ^ j * val (U.drop j) = 1000000000 ^ j * (V * g) + 1000000000 ^ j * (val (U.drop j) - V * g) := by
      rw [← Nat.mul_add, Nat.add_sub_cancel' hle]
    have e6 : V * (1000000000 ^ j * (g + 1000000000 * val (q.drop (j + 1)))) = 1000000000 ^ j * (V * g) + V * (1000000000 ^ (j + 1) * val (q.drop (j + 1))) := by
      rw [Nat.mul_add, Nat.mul_add, Nat.mul_left_comm V, Nat.pow_succ, Nat.mul_assoc (1000000000 ^ j)]
    omega
  · rw [hval]
    have e7 : 1000000000 ^ j * (val (U.drop j) - V * g + 1) ≤ 1000000000 ^ j * V := Nat.mul_le_mul_left _ hrem
    rw [Nat.mul_add, Nat.mul_one] at e7
    rw [Nat.mul_comm V (1000000000 ^ j)]; omega
theorem DivInv.start {N V lq lv : Nat} {U : List Nat} (hd : Dig U) (hN : N = val U) (hl : U.length + 1 = lq + lv) (hV : 1000000000 ^ lv ≤ V * 1000000000) : DivInv N V lq U (List.replicate lq 0) lq where
  du := hd
  dq := Dig.replicate _
  lq := List.length_replicate
  zero := fun i _ => by simp [List.getD_eq_getElem?_getD, List.getElem?_replicate]; split <;> rfl
  eq := by rw [List.drop_of_length_le (by simp)]; simp [val, hN]
  lt := by
    have h1 := val_lt hd
    have h2 : 1000000000 ^ U.length * 1000000000 = 1000000000 ^ lq * 1000000000 ^ lv := by rw [← Nat.pow_add, ← hl, Nat.pow_succ]
    have h3 : 1000000000 ^ lq * 1000000000 ^ lv ≤ 1000000000 ^ lq * (V * 1000000000) := Nat.mul_le_mul_left _ hV
    have h4 : 1000000000 ^ U.length * 1000000000 ≤ (V * 1000000000 ^ lq) * 1000000000 := by
      rw [h2]; refine Nat.le_trans h3 (Nat.le_of_eq ?_)
      rw [Nat.mul_comm V, Nat.mul_assoc V, Nat.mul_left_comm, Nat.mul_left_comm V, Nat.mul_comm V, ← Nat.mul_assoc]; ac_rfl
    have h5 := Nat.le_of_mul_le_mul_right h4 (by decide)
    omega
theorem DivInv.done {N V lq : Nat} {U q : List Nat} (h : DivInv N V lq U q 0) : val q = N / V ∧ val U = N % V := by
  have e := h.eq
  rw [List.drop_zero, Nat.pow_zero, Nat.one_mul] at e
  have l := h.lt
  rw [Nat.pow_zero, Nat.mul_one] at l
  exact short_div e l
theorem pow_len_le (n : Nat) (h : 0 < n) : 1000000000 ^ (limbsOf n).length ≤ n * 1000000000 := by
  have h1 := limbsOf_len_pos h
  have h2 : ¬ n < 1000000000 ^ ((limbsOf n).length - 1) := fun hc => by have := limbsOf_len_of_lt hc; omega
  have h3 : 1000000000 ^ (limbsOf n).length = 1000000000 ^ ((limbsOf n).length - 1) * 1000000000 := by rw [← Nat.pow_succ]; congr 1; omega
  rw [h3]; exact Nat.mul_le_mul_right _ (by omega)
theorem len_limbsOf_mul (n m : Nat) : (limbsOf (n * m)).length ≤ (limbsOf n).length + (limbsOf m).length := by
  apply limbsOf_len_of_lt
  rw [Nat.pow_add]
  have h1 := lt_of_limbsOf_len (n := n) (Nat.le_refl _)
  have h2 := lt_of_limbsOf_len (n := m) (Nat.le_refl _)
  exact Nat.mul_lt_mul'' h1 h2
theorem len_limbsOf_add (n m : Nat) : (limbsOf (n + m)).length ≤ max (limbsOf n).length (limbsOf m).length + 1 := by
  apply limbsOf_len_of_lt
  have h1 := lt_of_limbsOf_len (n := n) (k := max (limbsOf n).length (limbsOf m).length) (by omega)
  have h2 := lt_of_limbsOf_len (n := m) (k := max (limbsOf n).length (limbsOf m).length) (by omega)
  rw [Nat.pow_succ]; omega
theorem len_limbsOf_le {n m : Nat} (h : n ≤ m) : (limbsOf n).length ≤ (limbsOf m).length := length_limbsOf_le h
theorem val_lt32 : ∀ {L : List Nat}, (∀ a ∈ L, a < 4294967296) → val L + 5 ≤ 5 * 1000000000 ^ L.length
  | [], _ => by simp [val]
  | a :: L, h => by
    have h1 := val_lt32 (L := L) (fun b hb => h b (List.mem_cons_of_mem _ hb))
    have h2 := h a List.mem_cons_self
    simp only [val, List.length_cons, Nat.pow_succ]
    have := Bpos L.length
    omega
theorem len_limbsOf_val {L : List Nat} (h : ∀ a ∈ L, a < 4294967296) : (limbsOf (val L)).length ≤ L.length + 1 := by
  apply limbsOf_len_of_lt
  have := val_lt32 h
  rw [Nat.pow_succ]
  have := Bpos L.length
  omega
theorem len_limbsOf_dig {L : List Nat} (h : Dig L) : (limbsOf (val L)).length ≤ L.length := limbsOf_len_of_lt (val_lt h)
theorem part_len {P V : Nat} (h : P < V * 1000000000) : (limbsOf P).length ≤ (limbsOf V).length + 1 := limbsOf_len_of_lt (by
  rw [Nat.pow_succ]
  have h1 := lt_of_limbsOf_len (n := V) (Nat.le_refl _)
  exact Nat.lt_of_lt_of_le h (Nat.mul_le_mul_right _ (Nat.le_of_lt h1)))
theorem mul_div_scale {n m s : Nat} (hs : 0 < s) : (n * s) / (m * s) = n / m := Nat.mul_div_mul_right _ _ hs
theorem mul_mod_scale {n m s : Nat} (hs : 0 < s) : (n * s) % (m * s) / s = n % m := by rw [Nat.mul_mod_mul_right, Nat.mul_div_cancel _ hs]
theorem scale_pos {t : Nat} (ht : t < 1000000000) : 0 < 1000000000 / (t + 1) ∧ 1000000000 / (t + 1) < 4294967296 := by
  constructor
  · exact Nat.div_pos (by omega) (by omega)
  · have := Nat.div_le_self 1000000000 (t + 1); omega
theorem scale_dig {t : Nat} (h0 : 0 < t) : 1000000000 / (t + 1) < 1000000000 := Nat.div_lt_self (by decide) (by omega)
theorem u_drop_min (U : List Nat) (j : Nat) : U.drop (min j U.length) = U.drop j := by
  by_cases h : j ≤ U.length
  · rw [Nat.min_eq_left h]
  · rw [Nat.min_eq_right (by omega), List.drop_of_length_le (Nat.le_refl _), List.drop_of_length_le (by omega)]
theorem minus_val {A C out : List Nat} {k c : Nat} (hk : out.length = k) (hd : Dig out) (hl : k = A.length) (hC : val C ≤ val A) (hCl : C.length ≤ A.length) (h : val (A.take k) + 1000000000 ^ k * c = val (C.take k) + val out) :
    val out = val A - val C := by
  rw [val_take_all A k (by omega), val_take_all C k (by omega)] at h
  have h1 := val_lt hd
  rw [hk] at h1
  rcases Nat.eq_zero_or_pos c with h0 | h0
  · subst h0; omega
  · have : 1000000000 ^ k * 1 ≤ 1000000000 ^ k * c := Nat.mul_le_mul_left _ h0
    omega
theorem getD_replicate (n l : Nat) : (List.replicate n 0).getD l 0 = 0 := by
  rw [List.getD_eq_getElem?_getD, List.getElem?_replicate]; split <;> rfl
theorem short_val {A out : List Nat} {k x d r : Nat} (hk : k = 0) (hx : val A = x) (h : val (A.drop k) = d * val (out.drop k) + r) (hr : r < d) : val out = x / d := by
  subst hk; rw [List.drop_zero, List.drop_zero, hx] at h; exact (short_div h hr).1
theorem short_rem {A out : List Nat} {k x d r : Nat} (hk : k = 0) (hx : val A = x) (h : val (A.drop k) = d * val (out.drop k) + r) (hr : r < d) : r = x % d := by
  subst hk; rw [List.drop_zero, List.drop_zero, hx] at h; exact (short_div h hr).2
/-- What one turn of the reference's long division keeps. -/
structure RInv (N V lq : Nat) (X : List Nat) (R : Nat) (q : List Nat) (j : Nat) : Prop where
  dX : Dig X
  dq : Dig q
  hq : q.length = lq
  lX : X.length = lq
  zero : ∀ i, i < j → q.getD i 0 = 0
  eq : N = V * (1000000000 ^ j * val (q.drop j)) + 1000000000 ^ j * R + val (X.take j)
  lt : R < V
theorem RInv.start {N V : Nat} {X : List Nat} (hd : Dig X) (hN : N = val X) (hV : 0 < V) : RInv N V X.length X 0 (List.replicate X.length 0) X.length where
  dX := hd
  dq := Dig.replicate _
  hq := List.length_replicate
  lX := rfl
  zero := fun i _ => getD_replicate _ i
  eq := by rw [List.drop_of_length_le (by simp), List.take_length]; simp [val, hN]
  lt := hV
theorem RInv.part_lt {N V lq R : Nat} {X q : List Nat} {j : Nat} (h : RInv N V lq X R q j) (k : Nat) : X.getD k 0 + 1000000000 * R < V * 1000000000 := by
  have := h.dX.getD k
  have := h.lt
  omega
theorem RInv.put {N V lq R P g : Nat} {X q : List Nat} {j : Nat} (h : RInv N V lq X R q (j + 1)) (hj : j < lq) (hP : X.getD j 0 + 1000000000 * R = P) (hg : g = P / V) : RInv N V lq X (P - V * g) (q.set j g) j := by
  have hV : 0 < V := Nat.lt_of_le_of_lt (Nat.zero_le _) h.lt
  have hPV := h.part_lt j
  rw [hP] at hPV
  have hg9 : g < 1000000000 := by rw [hg, Nat.div_lt_iff_lt_mul hV, Nat.mul_comm]; exact hPV
  have h0 : j < q.length := by rw [h.hq]; exact hj
  have hle : V * g ≤ P := by rw [hg]; exact Nat.mul_div_le _ _
  have hrem : P - V * g < V := by
    have := Nat.mod_lt P hV
    have e := Nat.div_add_mod P V
    rw [← hg] at e; omega
  refine ⟨h.dX, h.dq.set j g hg9, by rw [List.length_set]; exact h.hq, h.lX, ?_, ?_, hrem⟩
  · intro i hi; rw [getD_set_ne _ _ _ _ (by omega)]; exact h.zero i (by omega)
  · have e2 := drop_set_same q j g
    have e3 : (q.set j g).getD j 0 = g := by simp [List.getD_eq_getElem?_getD, h0]
    rw [h.eq, val_drop (q.set j g) j (by rw [List.length_set]; exact h0), e2, e3, val_take_succ X j (by rw [h.lX]; exact hj)]
    have e5 : 1000000000 ^ j * P = 1000000000 ^ j * (V * g) + 1000000000 ^ j * (P - V * g) := by rw [← Nat.mul_add, Nat.add_sub_cancel' hle]
    have e6 : V * (1000000000 ^ j * (g + 1000000000 * val (q.drop (j + 1)))) = 1000000000 ^ j * (V * g) + V * (1000000000 ^ (j + 1) * val (q.drop (j + 1))) := by
      rw [Nat.mul_add, Nat.mul_add, Nat.mul_left_comm V, Nat.pow_succ, Nat.mul_assoc (1000000000 ^ j)]
    have e7 : 1000000000 ^ j * P = 1000000000 ^ j * X.getD j 0 + 1000000000 ^ (j + 1) * R := by
      rw [← hP, Nat.mul_add, Nat.pow_succ, Nat.mul_assoc (1000000000 ^ j)]
    omega
theorem RInv.done {N V lq R : Nat} {X q : List Nat} (h : RInv N V lq X R q 0) : val q = N / V ∧ R = N % V := by
  have e := h.eq
  rw [List.drop_zero, Nat.pow_zero, Nat.one_mul, Nat.one_mul] at e
  simp only [List.take_zero, val, Nat.add_zero] at e
  exact short_div e h.lt
theorem scale_len {m t sc : Nat} (hm : 0 < m) (ht : (limbsOf m).getD ((limbsOf m).length - 1) 0 = t) (hsc : 1000000000 / (t + 1) = sc) (hs : 0 < sc) : (limbsOf (m * sc)).length = (limbsOf m).length := by
  have hp := limbsOf_len_pos hm
  refine Nat.le_antisymm (limbsOf_len_of_lt ?_) (len_limbsOf_le (Nat.le_mul_of_pos_right _ hs))
  have h1 := top1' (x := m) (k := (limbsOf m).length - 1) rfl (by omega)
  rw [ht] at h1
  have h2 : m < (t + 1) * 1000000000 ^ ((limbsOf m).length - 1) := by
    rw [← Nat.div_lt_iff_lt_mul (Bpos _), ← h1]; exact Nat.lt_succ_self t
  have h3 : (t + 1) * sc ≤ 1000000000 := by rw [← hsc]; exact Nat.mul_div_le _ _
  have h4 : 1000000000 ^ (limbsOf m).length = 1000000000 * 1000000000 ^ ((limbsOf m).length - 1) := by rw [Nat.mul_comm, ← Nat.pow_succ]; congr 1; omega
  rw [h4]
  calc m * sc < (t + 1) * 1000000000 ^ ((limbsOf m).length - 1) * sc := Nat.mul_lt_mul_of_pos_right h2 hs
    _ = (t + 1) * sc * 1000000000 ^ ((limbsOf m).length - 1) := Nat.mul_right_comm _ _ _
    _ ≤ _ := Nat.mul_le_mul_right _ h3
end Go.Nat9

/- The program logic: nil tests, append of immutable data, cuts of views; what functions on limbs return. -/
namespace Go.Fw
open Go Go.RowKit Go.Nat9

section
variable {P : Program} {Q : Exit → Act → World → Prop} {w0 : Ctx} {σ σ' : List Res} {φ φ' : List (Bool × VP)} {fr : Fr} {ops : Array Oper} {rest : List Oper}
  {d : Nat} {ty : TypeId} {pos : String} {aft : Array Edge}
theorem JL_eqlNil {t t' e : TypeId} {sz by' : Nat} {z : List Value} {x y : Operand} {ad : Option Addr} {n c : Nat} (hs : slOf P t = some (e, sz, by', z)) (hx : Ev fr x (.slice ad n c)) (hy : Ev fr y (.slice none 0 0))
    (k : JL P ops Q w0 σ φ rest (upd fr d (.bool ad.isNone))) : JL P ops Q w0 σ φ (⟨some d, .binOp .eql t x y t', ty, pos, aft, none⟩ :: rest) fr := by
  obtain ⟨i, zv, hu, _⟩ := slOf_spec hs
  exact JL_pure _ (fun w => by simp only [execOp, hx.eq, hy.eq, eqGuard_at_slice, Sem.run_bind, Sem.run_pure, run_eql_slice_nil w t e ad n c hu, Result.andThen_ok]) k
theorem JL_neqNil {t t' e : TypeId} {sz by' : Nat} {z : List Value} {x y : Operand} {ad : Option Addr} {n c : Nat} (hs : slOf P t = some (e, sz, by', z)) (hx : Ev fr x (.slice ad n c)) (hy : Ev fr y (.slice none 0 0))
    (k : JL P ops Q w0 σ φ rest (upd fr d (.bool (!ad.isNone)))) : JL P ops Q w0 σ φ (⟨some d, .binOp .neq t x y t', ty, pos, aft, none⟩ :: rest) fr := by
  obtain ⟨i, zv, hu, _⟩ := slOf_spec hs
  exact JL_pure _ (fun w => by simp only [execOp, hx.eq, hy.eq, eqGuard_at_slice, Sem.run_bind, Sem.run_pure, run_neq_slice_nil (P := P) (w := w) t e ad n c hu, Result.andThen_ok]) k
/-- Limbs behind own limbs. -/
theorem JL_appendUV {t e : TypeId} {by' : Nat} {z : Value} {x y : Operand} {ad ad2 : Option Addr} {n cap m c : Nat} {L M : List Nat} (i : Nat) (hs : slOf P t = some (e, 1, by', [z]))
    (hx : Ev fr x (.slice ad n cap)) (hy : Ev fr y (.slice ad2 m c)) (hσ : Nth σ i (osl ad n cap e 1 (u32s L))) (hr : Reads w0 σ φ ad2 (u32s M)) (hl : M.length = m)
    (h63 : n + m ≤ 9223372036854775807) (hbytes : (n + m) * by' ≤ 140737488355328)
    (k : ∀ ad' cap', n + m ≤ cap' ∧ cap' ≤ 9223372036854775807 → JL P ops Q w0 (updL σ i (osl ad' (n + m) cap' e 1 (u32s (L ++ M)))) φ rest (upd fr d (.slice ad' (n + m) cap'))) :
    JL P ops Q w0 σ φ (⟨some d, .call { callee := .builtin .append, args := #[x, y], argTypes := #[t, t] }, ty, pos, aft, none⟩ :: rest) fr := by
  refine JL_append i hs rfl (by decide) hx hy hσ (by rw [u32s_length, hl, Nat.mul_one]) hr ?_ h63 hbytes ?_
  · intro v hv
    obtain ⟨a, _, rfl⟩ := List.mem_map.1 hv
    rfl
  · intro ad' cap' hc
    rw [u32s_append]
    exact k ad' cap' hc
/-- Limbs behind immutable limbs without spare room. -/
theorem JL_appendVU {t e : TypeId} {by' : Nat} {z : Value} {x y : Operand} {f : Bool} {ad ad2 : Option Addr} {n cap m c : Nat} {L M : List Nat} (hv : (f, vCells ad (u32s L)) ∈ φ) (hr : Reads w0 σ φ ad2 (u32s M)) (hs : slOf P t = some (e, 1, by', [z]))
    (hx : Ev fr x (.slice ad n cap)) (hy : Ev fr y (.slice ad2 m c)) (hxl : L.length = n) (hcap : cap = n) (hl : M.length = m)
    (h63 : n + m ≤ 9223372036854775807) (hbytes : (n + m) * by' ≤ 140737488355328)
    (k : ∀ ad' cap', n + m ≤ cap' ∧ cap' ≤ 9223372036854775807 → JL P ops Q w0 σ ((f, vCells ad' (u32s (L ++ M))) :: φ) rest (upd fr d (.slice ad' (n + m) cap'))) :
    JL P ops Q w0 σ φ (⟨some d, .call { callee := .builtin .append, args := #[x, y], argTypes := #[t, t] }, ty, pos, aft, none⟩ :: rest) fr := by
  refine JL_appendV hs rfl (by decide) hx hy hv (by rw [u32s_length, hxl, Nat.mul_one]) hcap (by rw [u32s_length, hl, Nat.mul_one]) hr h63 hbytes ?_
  intro ad' cap' hc
  rw [u32s_append]
  exact k ad' cap' hc
theorem viewSub {f : Bool} {ad : Option Addr} {L : List Nat} (h : (f, vCells ad (u32s L)) ∈ φ) (m l hh : Nat) (hm : hh ≤ m) (w : World) (s : St w0 w σ φ) : (vCells (subAd ad m l 1) (u32s ((L.take hh).drop l))).holds (Xof w0 σ f) w := by
  have := CellsAt.sub (s.views _ h) m l hh 1 hm
  rw [Nat.mul_one, Nat.mul_one, u32s_take, u32s_drop] at this
  exact this
theorem JL_viewSub {lo : List Oper} {f : Bool} {ad : Option Addr} {L : List Nat} (m l hh : Nat) (h : (f, vCells ad (u32s L)) ∈ φ) (hm : hh ≤ m) (k : JL P ops Q w0 σ ((f, vCells (subAd ad m l 1) (u32s ((L.take hh).drop l))) :: φ) lo fr) : JL P ops Q w0 σ φ lo fr :=
  JL_addView (fun w s => viewSub h m l hh hm w s) k
theorem JC_viewSub {c : Code} {f : Bool} {ad : Option Addr} {L : List Nat} (m l hh : Nat) (h : (f, vCells ad (u32s L)) ∈ φ) (hm : hh ≤ m) (k : JC P c Q w0 σ ((f, vCells (subAd ad m l 1) (u32s ((L.take hh).drop l))) :: φ) fr) : JC P c Q w0 σ φ fr :=
  JC_addView (fun w s => viewSub h m l hh hm w s) k
theorem nilL {w : World} (s : St w0 w σ φ) {f : Bool} {ad : Option Addr} {L : List Nat} (h : (f, vCells ad (u32s L)) ∈ φ) (ha : ad.isNone = true) : L = [] := by
  cases L with
  | nil => rfl
  | cons a L =>
    have h1 : CellsAt (Xof w0 σ f) w ad (u32s (a :: L)) := s.views _ h
    obtain ⟨b, o, hb, _⟩ := h1 0 (.int .u32 (a : Int)) rfl
    subst hb; cases ha
end

theorem quo_nat_u64 (a b : Nat) (h : a < 18446744073709551616) : IntKind.u64.wrap ((a : Int).tdiv (b : Int)) = ((a / b : Nat) : Int) := by
  rw [← Int.ofNat_tdiv]
  have := Nat.div_le_self a b
  generalize a / b = q at this ⊢
  exact IntWalk.u64_in _ (by omega)
theorem quo_nat_u32 (a b : Nat) (h : a < 4294967296) : IntKind.u32.wrap ((a : Int).tdiv (b : Int)) = ((a / b : Nat) : Int) := by
  rw [← Int.ofNat_tdiv]
  have := Nat.div_le_self a b
  generalize a / b = q at this ⊢
  exact IntWalk.u32_in _ (by omega)
theorem u32_nat (a : Nat) (h : a < 4294967296) : IntKind.u32.wrap (a : Int) = (a : Int) := IntWalk.u32_in _ (by omega)
theorem u64_nat (a : Nat) (h : a < 18446744073709551616) : IntKind.u64.wrap (a : Int) = (a : Int) := IntWalk.u64_in _ (by omega)
theorem rem_nat (a b : Nat) : (a : Int).tmod (b : Int) = ((a % b : Nat) : Int) := by rw [← Int.ofNat_tmod]

theorem JL_normQ {P : Program} {w0 : Ctx} {σ : List Res} {φ : List (Bool × VP)} {fr : Fr} {ops : Array Oper} {d : Nat} {F : Value → VP} {l : List Oper} (fr' : Fr) (φ' : List (Bool × VP)) (h1 : fr' = fr) (h3 : φ' = φ)
    (h : JL P ops (StepQ w0 σ φ' fr' d F) w0 σ φ' l fr') : JL P ops (StepQ w0 σ φ fr d F) w0 σ φ l fr := by
  subst h1 h3; exact h

section
variable {P : Program} {Q : Exit → Act → World → Prop} {w0 : Ctx} {σ σ' : List Res} {φ φ' : List (Bool × VP)} {fr : Fr} {ops : Array Oper} {rest : List Oper}
  {d : Nat} {ty : TypeId} {pos : String} {aft : Array Edge}
theorem JL_build1U {t e : TypeId} {by' : Nat} {z : Value} {x : Operand} (n : Nat) (hs : slOf P t = some (e, 1, by', [z])) (hx : Ev fr x (.int .u32 (n : Int)))
    (k : ∀ g, JL P ops Q w0 (σ ++ [osl (some ⟨g, 0, none⟩) 1 1 e 1 (u32s [n])]) φ rest (upd fr d (.slice (some ⟨g, 0, none⟩) 1 1))) :
    JL P ops Q w0 σ φ (⟨some d, .buildSlice t 1 #[(0, x)], ty, pos, aft, none⟩ :: rest) fr := JL_build1 hs hx rfl k
theorem Nth_last {α : Type} : ∀ (l : List α) (a : α), Nth (l ++ [a]) l.length a
  | [], _ => rfl
  | _ :: l, a => Nth_last l a
theorem JL_giveLast {l : List Oper} {ad : Option Addr} {n cap sz : Nat} {E : TypeId} {xs : List Value} (k : JL P ops Q w0 σ ((true, vCells ad xs) :: φ) l fr) : JL P ops Q w0 (σ ++ [osl ad n cap E sz xs]) φ l fr := by
  refine JL_give σ.length (Nth_last σ _) ?_
  rw [List.eraseIdx_append_of_length_le (Nat.le_refl _), Nat.sub_self]
  simpa using k
end

/-! ## What functions on limbs return, and what they are given -/
/-- a slice of the canonical limbs of x -/
def LS (x : Nat) (v : Value) (φo : List VP) : Prop := ∃ (ad : Option Addr) (cap : Nat), v = .slice ad (limbsOf x).length cap ∧ (limbsOf x).length ≤ cap ∧ cap ≤ 9223372036854775807 ∧ φo = [vCells ad (u32s (limbsOf x))]
/-- a natural in canonical limbs -/
def LN (x : Nat) (v : Value) (φo : List VP) : Prop := ∃ (ad : Option Addr) (cap : Nat), v = .agg #[.slice ad (limbsOf x).length cap] ∧ (limbsOf x).length ≤ cap ∧ cap ≤ 9223372036854775807 ∧ φo = [vCells ad (u32s (limbsOf x))]
/-- a copy of limbs -/
def LC (L : List Nat) (v : Value) (φo : List VP) : Prop := ∃ (ad : Option Addr) (cap : Nat), v = .slice ad L.length cap ∧ L.length ≤ cap ∧ cap ≤ 9223372036854775807 ∧ φo = [vCells ad (u32s L)]
/-- n limbs L of the value x, at most K of them -/
structure NIn (n : Nat) (L : List Nat) (x K : Nat) : Prop where
  len : L.length = n
  u32 : U32 L
  val : val L = x
  le : n ≤ K
theorem U32.limbsOf (x : Nat) : U32 (limbsOf x) := U32.ofDig (dig_limbsOf x)
theorem U32.snoc {L : List Nat} (h : U32 L) {a : Nat} (ha : a < 4294967296) : U32 (L ++ [a]) := fun b hb => by
  rcases List.mem_append.1 hb with hb | hb
  · exact h b hb
  · rw [List.mem_singleton.1 hb]; exact ha
theorem NIn.of {x K : Nat} (h : (limbsOf x).length ≤ K) : NIn (limbsOf x).length (limbsOf x) x K := ⟨rfl, U32.limbsOf x, val_limbsOf x, h⟩
theorem NIn.nil {K : Nat} : NIn 0 [] 0 K := ⟨rfl, fun _ h => (List.not_mem_nil h).elim, rfl, Nat.zero_le _⟩
theorem NIn.mono {n : Nat} {L : List Nat} {x K K' : Nat} (h : NIn n L x K) (hk : K ≤ K') : NIn n L x K' := ⟨h.len, h.u32, h.val, Nat.le_trans h.le hk⟩
theorem NIn.sz {n : Nat} {L : List Nat} {x K : Nat} (h : NIn n L x K) : (limbsOf x).length ≤ n + 1 := by
  rw [← h.val, ← h.len]; exact len_limbsOf_val h.u32
theorem NIn.getD {n : Nat} {L : List Nat} {x K : Nat} (h : NIn n L x K) (k : Nat) : L.getD k 0 < 4294967296 := h.u32.getD k
/-- n digits L of the value x -/
structure DIn (n : Nat) (L : List Nat) (x : Nat) : Prop where
  len : L.length = n
  dig : Dig L
  val : Nat9.val L = x
theorem DIn.of {x : Nat} : DIn (Nat9.limbsOf x).length (Nat9.limbsOf x) x := ⟨rfl, dig_limbsOf x, val_limbsOf x⟩
theorem val_one (d : Nat) : Nat9.val [d] = d := by simp [Nat9.val]
theorem DIn.one {d : Nat} (h : d < 1000000000) : DIn 1 [d] d := ⟨rfl, Dig.cons h Dig.nil, val_one d⟩
/-- two slices of limbs -/
def LS2 (x y : Nat) (v : Value) (φo : List VP) : Prop := ∃ (ad : Option Addr) (cap : Nat) (ad' : Option Addr) (cap' : Nat), v = .tuple #[.slice ad (limbsOf x).length cap, .slice ad' (limbsOf y).length cap'] ∧
  (limbsOf x).length ≤ cap ∧ cap ≤ 9223372036854775807 ∧ (limbsOf y).length ≤ cap' ∧ cap' ≤ 9223372036854775807 ∧ φo = [vCells ad (u32s (limbsOf x)), vCells ad' (u32s (limbsOf y))]
/-- a slice of limbs and a limb -/
def LSr (x y : Nat) (v : Value) (φo : List VP) : Prop := ∃ (ad : Option Addr) (cap : Nat), v = .tuple #[.slice ad (limbsOf x).length cap, .int .u32 (y : Int)] ∧ (limbsOf x).length ≤ cap ∧ cap ≤ 9223372036854775807 ∧ φo = [vCells ad (u32s (limbsOf x))]
/-- a natural and an error -/
def LNE (x : Nat) (e : Int) (v : Value) (φo : List VP) : Prop := ∃ (ad : Option Addr) (cap : Nat), v = .tuple #[.agg #[.slice ad (limbsOf x).length cap], .int .i64 e] ∧ (limbsOf x).length ≤ cap ∧ cap ≤ 9223372036854775807 ∧ φo = [vCells ad (u32s (limbsOf x))]
/-- two naturals and an error -/
def LN2E (x y : Nat) (e : Int) (v : Value) (φo : List VP) : Prop := ∃ (ad : Option Addr) (cap : Nat) (ad' : Option Addr) (cap' : Nat), v = .tuple #[.agg #[.slice ad (limbsOf x).length cap], .agg #[.slice ad' (limbsOf y).length cap'], .int .i64 e] ∧
  (limbsOf x).length ≤ cap ∧ cap ≤ 9223372036854775807 ∧ (limbsOf y).length ≤ cap' ∧ cap' ≤ 9223372036854775807 ∧ φo = [vCells ad (u32s (limbsOf x)), vCells ad' (u32s (limbsOf y))]
theorem LS.nil : LS 0 (.slice none 0 0) [vCells none (u32s [])] := ⟨none, 0, by rw [limbsOf_zero]; rfl, by rw [limbsOf_zero]; exact Nat.le_refl _, by omega, by rw [limbsOf_zero]⟩
theorem limbs_pos {x : Nat} (h : 0 < (limbsOf x).length) : 0 < x := by
  rcases Nat.eq_zero_or_pos x with h0 | h0
  · subst h0; rw [limbsOf_zero] at h; cases h
  · exact h0
theorem limbs_zero {x : Nat} (h : (limbsOf x).length = 0) : x = 0 := limbsOf_eq_nil.1 (List.eq_nil_of_length_eq_zero h)
/-! Short names for the printed walks. -/
theorem mm0 {α : Type} {a : α} {l : List α} : a ∈ a :: l := List.mem_cons_self
theorem mmS {α : Type} {a b : α} {l : List α} (h : a ∈ l) : a ∈ b :: l := List.mem_cons_of_mem _ h
theorem ss0 {α : Type} {l : List α} : ∀ p ∈ l, p ∈ l := subset_refl
theorem ssS {α : Type} {a : α} {b l : List α} (h : ∀ p ∈ b, p ∈ l) : ∀ p ∈ b, p ∈ a :: l := subset_tail h
section
variable {P : Program} {w0 : Ctx} {σ : List Res} {φ : List (Bool × VP)} {fr : Fr} {ops : Array Oper}
theorem vz {σx : List Res} {φx : List (Bool × VP)} {frv : Fr} {d : Nat} {V : Value} (h : fr = upd frv d V) : JL P ops (StepQ w0 σx φx frv d (fun v => vPure (v = V))) w0 σx φx [] fr := JL_nil (JE_stepV h ss0)
variable {l : List Oper} {n : Nat} {b : List Value} {ss : List Sp} {d : Nat} {preds : List Nat} {ty : TypeId} {pos : String} {aft : Array Edge}
theorem oNo {op : Op} {j t : Nat} {want : Bool} (hj : (l.toArray[j]?).bind (·.dst) = some t) (hb : ∀ vals, Lk ⟨n, pendsO preds vals ss 0, b⟩ t (.bool (!want))) : OblS P l w0 σ φ n b ss (spV d preds undef) ⟨some d, op, ty, pos, aft, some (j, want)⟩ :=
  OblS_V fun vals _ _ => JL_guard_no hj (hb vals) (vz rfl)
theorem oMv {x : Operand} {v : Value} (hx : ∀ vals, Ev ⟨n, pendsO preds vals ss 0, b⟩ x v) : OblS P l w0 σ φ n b ss (spV d preds v) ⟨some d, .move x, ty, pos, aft, none⟩ := OblS_V fun vals _ _ => JL_move (hx vals) (vz rfl)
theorem oMg {x : Operand} {v : Value} {j t : Nat} {want : Bool} (hj : (l.toArray[j]?).bind (·.dst) = some t) (hb : ∀ vals, Lk ⟨n, pendsO preds vals ss 0, b⟩ t (.bool want)) (hx : ∀ vals, Ev ⟨n, pendsO preds vals ss 0, b⟩ x v) : OblS P l w0 σ φ n b ss (spV d preds v) ⟨some d, .move x, ty, pos, aft, some (j, want)⟩ :=
  OblS_V fun vals _ _ => JL_guard_yes hj (hb vals) (JL_move (hx vals) (vz rfl))
end
theorem am {α : Type} {a : α} {l : List α} (h : a ∈ l := by repeat (first | with_reducible exact mm0 | refine mmS ?_)) : a ∈ l := h
theorem om {p : Prop} (h : p := by omega) : p := h
theorem kr {p : Prop} (h : p := by kernel_rfl) : p := h
theorem i6o {n : Int} (h : -9223372036854775808 ≤ n ∧ n ≤ 9223372036854775807 := by omega) : IntKind.i64.wrap n = n := IntWalk.i64_in n h
theorem zp {n : Nat} : 0 < n + 1 := Nat.zero_lt_succ n
theorem bleq {a b : Nat} (h : Nat.ble a b = true := by exact rfl) : a ≤ b := Nat.le_of_ble_eq_true h
theorem rdg {w0 : Ctx} {σ : List Res} {φ : List (Bool × VP)} {ad : Option Addr} {xs : List Value} (h : Reads w0 σ φ ad xs := by first | exact Reads.view am | exact Reads.own 0 rfl | exact Reads.own 1 rfl | exact Reads.own 2 rfl | exact Reads.own 3 rfl) : Reads w0 σ φ ad xs := h
theorem lno {p : Prop} (h : p := by first | (rw [u32s_length]; omega) | (rw [i64s_length]; omega)) : p := h
theorem ao1 {u : Value} (h : u.oneCell' = true := by exact rfl) : AllOne [u] := AllOne.cons h AllOne.nil
theorem ao3 {u v w : Value} (h : u.oneCell' = true := by exact rfl) (h2 : v.oneCell' = true := by exact rfl) (h3 : w.oneCell' = true := by exact rfl) : AllOne [u, v, w] := AllOne.cons h (AllOne.cons h2 (ao1 h3))
section
variable {P : Program} {Q : Exit → Act → World → Prop} {w0 : Ctx} {σ σ' : List Res} {φ φ' : List (Bool × VP)} {fr : Fr} {ops : Array Oper}
/-- What a list of changes says at no place, at places of no interest; slots not written yet. -/
abbrev rn {α : Type} : Nat → List (Option α) → List (Option α)
  | 0, l => l
  | k + 1, l => none :: rn k l
abbrev sc (u : Nat → Value) : Nat → Nat → List (Option Value) → List (Option Value)
  | _, 0, l => l
  | a, k + 1, l => some (u a) :: sc u (a + 1) k l
def rp : Nat → List Value
  | 0 => []
  | k + 1 => undef :: rp k
theorem JC_nw {c : Code} (σ' : List Res) (φ' : List (Bool × VP)) (h : JC P c Q w0 σ' φ' fr) (h2 : σ' = σ := by exact rfl) (h3 : φ' = φ := by exact rfl) : JC P c Q w0 σ φ fr := by
  subst h2 h3; exact h
theorem JC_st {c : Code} {n : Nat} {b b' : List Value} (σ' : List Res) (φ' : List (Bool × VP)) (h : JC P c Q w0 σ' φ' ⟨n, [], b'⟩) (h1 : b = b' := by simp only [rp]; rfl) (h2 : σ' = σ := by exact rfl) (h3 : φ' = φ := by exact rfl) : JC P c Q w0 σ φ ⟨n, [], b⟩ := by
  subst h1 h2 h3; exact h
theorem JL_dv {y : Code} (n : Nat) {b' : List Value} (h : JC P y Q w0 σ φ ⟨n, [], b'⟩) (hn : fr.n = n := by exact rfl) (hl : Nat.ble n fr.base.length = true := by exact rfl) (h1 : flatP fr.pend fr.base = b' := by simp only [nrmF]; rfl) :
    JL P ops (Then P y Q) w0 σ φ [] fr := JL_done_up n σ φ hn hl h1 rfl rfl h
theorem JL_nv (n : Nat) {b' : List Value} (h : JE Q .normal w0 σ φ ⟨n, [], b'⟩) (hn : fr.n = n := by exact rfl) (hl : Nat.ble n fr.base.length = true := by exact rfl) (h1 : flatP fr.pend fr.base = b' := by simp only [nrmF]; rfl) :
    JL P ops Q w0 σ φ [] fr := JL_nil_up n σ φ hn hl h1 rfl rfl h
theorem JL_du {y : Code} (n : Nat) {b' : List Value} (σ' : List Res) (φ' : List (Bool × VP)) (h : JC P y Q w0 σ' φ' ⟨n, [], b'⟩) (hn : fr.n = n := by exact rfl) (hl : Nat.ble n fr.base.length = true := by exact rfl) (h1 : flatP fr.pend fr.base = b' := by simp only [nrmF]; rfl) (h2 : σ' = σ := by exact rfl) (h3 : φ' = φ := by exact rfl) :
    JL P ops (Then P y Q) w0 σ φ [] fr := JL_done_up n σ' φ' hn hl h1 h2 h3 h
theorem JL_nu (n : Nat) {b' : List Value} (σ' : List Res) (φ' : List (Bool × VP)) (h : JE Q .normal w0 σ' φ' ⟨n, [], b'⟩) (hn : fr.n = n := by exact rfl) (hl : Nat.ble n fr.base.length = true := by exact rfl) (h1 : flatP fr.pend fr.base = b' := by simp only [nrmF]; rfl) (h2 : σ' = σ := by exact rfl) (h3 : φ' = φ := by exact rfl) :
    JL P ops Q w0 σ φ [] fr := JL_nil_up n σ' φ' hn hl h1 h2 h3 h
theorem JC_nm {c : Code} (n : Nat) {b' : List Value} (σ' : List Res) (φ' : List (Bool × VP)) (h : JC P c Q w0 σ' φ' ⟨n, [], b'⟩) (hn : fr.n = n := by exact rfl) (hp : fr.pend = [] := by exact rfl) (h1 : fr.base = b' := by simp only [mixF, mix, rn, sc]; rfl) (h2 : σ' = σ := by exact rfl) (h3 : φ' = φ := by exact rfl) : JC P c Q w0 σ φ fr := by
  obtain ⟨m, p, b⟩ := fr
  subst hn hp h1 h2 h3
  exact h
theorem JE_keep {e : Exit} (k : Nat) (σ' : List Res) (h : JE Q e w0 σ' φ fr) (h2 : σ' = σ.take k := by exact rfl) : JE Q e w0 σ φ fr := by
  subst h2
  exact JE_conv (fun _ s => s.dropRes (List.take_sublist _ _)) h
end
section
variable {P : Program} {Q : Exit → Act → World → Prop} {w0 : Ctx} {σ : List Res} {φ : List (Bool × VP)} {fr : Fr} {ops : Array Oper} {rest : List Oper} {l : List Oper} {n : Nat} {b : List Value} {ss : List Sp} {d : Nat} {preds : List Nat} {ty : TypeId} {pos : String} {aft : Array Edge}
theorem oN {op : Op} {j t : Nat} {want : Bool} (hj : (l.toArray[j]?).bind (·.dst) = some t := by exact rfl) (hb : ∀ vals, Lk ⟨n, pendsO preds vals ss 0, b⟩ t (.bool (!want)) := by exact fun _ => rfl) : OblS P l w0 σ φ n b ss (spV d preds undef) ⟨some d, op, ty, pos, aft, some (j, want)⟩ := oNo hj hb
theorem oM {x : Operand} {v : Value} (hx : ∀ vals, Ev ⟨n, pendsO preds vals ss 0, b⟩ x v := by exact fun _ => rfl) : OblS P l w0 σ φ n b ss (spV d preds v) ⟨some d, .move x, ty, pos, aft, none⟩ := oMv hx
theorem oG {x : Operand} {v : Value} {j t : Nat} {want : Bool} (hj : (l.toArray[j]?).bind (·.dst) = some t := by exact rfl) (hb : ∀ vals, Lk ⟨n, pendsO preds vals ss 0, b⟩ t (.bool want) := by exact fun _ => rfl) (hx : ∀ vals, Ev ⟨n, pendsO preds vals ss 0, b⟩ x v := by exact fun _ => rfl) : OblS P l w0 σ φ n b ss (spV d preds v) ⟨some d, .move x, ty, pos, aft, some (j, want)⟩ := oMg hj hb hx
theorem JL_gy {op : Op} {dst : Option Nat} {j t : Nat} {want : Bool} (k : JL P ops Q w0 σ φ (⟨dst, op, ty, pos, aft, none⟩ :: rest) fr) (hj : (ops[j]?).bind (·.dst) = some t := by exact rfl) (hb : Lk fr t (.bool want) := by exact rfl) : JL P ops Q w0 σ φ (⟨dst, op, ty, pos, aft, some (j, want)⟩ :: rest) fr := JL_guard_yes hj hb k
theorem JL_gn {op : Op} {j t : Nat} {want : Bool} (k : JL P ops Q w0 σ φ rest (upd fr d undef)) (hj : (ops[j]?).bind (·.dst) = some t := by exact rfl) (hb : Lk fr t (.bool (!want)) := by exact rfl) : JL P ops Q w0 σ φ (⟨some d, op, ty, pos, aft, some (j, want)⟩ :: rest) fr := JL_guard_no hj hb k
end
theorem JC_sr {P : Program} {Q : Exit → Act → World → Prop} {w0 : Ctx} {σ : List Res} {φ : List (Bool × VP)} {fr : Fr} {id : Nat} {l : List Oper} {y : Code} (h : JL P l.toArray (Then P y Q) w0 σ φ l fr) : JC P (.seq (.region id l.toArray false) y) Q w0 σ φ fr := JC_seq (JC_region h)
theorem JL_m {P : Program} {Q : Exit → Act → World → Prop} {w0 : Ctx} {σ : List Res} {φ : List (Bool × VP)} {fr : Fr} {ops : Array Oper} {rest : List Oper} {d : Nat} {ty : TypeId} {pos : String} {aft : Array Edge} {x : Operand} {v : Value} (k : JL P ops Q w0 σ φ rest (upd fr d v)) (hx : Ev fr x v := by exact rfl) : JL P ops Q w0 σ φ (⟨some d, .move x, ty, pos, aft, none⟩ :: rest) fr := JL_move hx k
theorem JL_a {P : Program} {Q : Exit → Act → World → Prop} {w0 : Ctx} {σ : List Res} {φ : List (Bool × VP)} {fr : Fr} {ops : Array Oper} {rest : List Oper} {d : Nat} {ty : TypeId} {pos : String} {aft : Array Edge} {x : Operand} {v : Value} (k : JL P ops Q w0 σ φ rest (upd fr d v)) (hx : Ev fr x v := by exact rfl) : JL P ops Q w0 σ φ (⟨some d, .assign x, ty, pos, aft, none⟩ :: rest) fr := JL_assign hx k
end Go.Fw

/- The program logic's rule for a region that draws its order and has few orders: each order is walked. -/
namespace Go.Fw
open Go Go.RowKit

section
variable {P : Program} {Q : Exit → Act → World → Prop} {w0 : Ctx} {σ : List Res} {φ : List (Bool × VP)} {fr : Fr}
/-- From here on whatever is ready is done, in any order. -/
def JA (P : Program) (l : List Oper) (Q : Exit → Act → World → Prop) (w0 : Ctx) (σ : List Res) (φ : List (Bool × VP)) (fuel : Nat) (listed : Array Bool) (fr : Fr) : Prop :=
  ∀ w, St w0 w σ φ → wpAny P .any l.toArray Q fuel listed (act fr) w
def NextA (P : Program) (l : List Oper) (Q : Exit → Act → World → Prop) (fuel : Nat) (listed : Array Bool) : Exit → Act → World → Prop
  | .normal, a, w => wpAny P .any l.toArray Q fuel listed a w
  | e, a, w => Q e a w
def AllA (P : Program) (l : List Oper) (Q : Exit → Act → World → Prop) (w0 : Ctx) (σ : List Res) (φ : List (Bool × VP)) (fuel : Nat) (listed : Array Bool) (fr : Fr) : List Nat → Prop
  | [] => True
  | i :: is => (∃ o, l[i]? = some o ∧ JL P l.toArray (NextA P l Q fuel (listed.setIfInBounds i true)) w0 σ φ [o] fr) ∧ AllA P l Q w0 σ φ fuel listed fr is
theorem AllA.mem {l : List Oper} {fuel : Nat} {listed : Array Bool} : ∀ {is : List Nat}, AllA P l Q w0 σ φ fuel listed fr is → ∀ i ∈ is, ∃ o, l[i]? = some o ∧ JL P l.toArray (NextA P l Q fuel (listed.setIfInBounds i true)) w0 σ φ [o] fr
  | _ :: _, h, i, hi => by
    rcases List.mem_cons.1 hi with rfl | hi
    · exact h.1
    · exact AllA.mem h.2 i hi
theorem JA_step {l : List Oper} {fuel : Nat} {listed : Array Bool} (is : List Nat) (hr : Region.ready .any l.toArray listed = is) (hne : is ≠ []) (h : AllA P l Q w0 σ φ fuel listed fr is) : JA P l Q w0 σ φ (fuel + 1) listed fr := by
  intro w s
  refine ⟨fun h0 => (hne (hr.symm.trans h0)).elim, fun i hi => ?_⟩
  rw [hr] at hi
  obtain ⟨o, ho, hj⟩ := h.mem i hi
  have h1 := hj w s
  unfold wpOp
  rw [List.getElem?_toArray, ho]
  simp only
  unfold wpList at h1
  split at h1
  · rename_i hw
    rw [if_pos hw]
    exact h1.imp (fun h => Oper.wp_conv (fun a w h => h) (fun _ _ _ h => h) (fun h => h) h) (fun h => ⟨h.1, h.2⟩)
  · rename_i hw
    rw [if_neg hw]
    exact h1
theorem JE_nextA {l : List Oper} {fuel : Nat} {listed : Array Bool} (h : JA P l Q w0 σ φ fuel listed fr) : JE (NextA P l Q fuel listed) .normal w0 σ φ fr := h
theorem JE_nA {l : List Oper} {fuel : Nat} {listed : Array Bool} (i : Nat) {o : Oper} (h : JL P l.toArray (NextA P l Q fuel (listed.setIfInBounds i true)) w0 σ φ [o] fr) (ho : l[i]? = some o := by exact rfl) (hr : Region.ready .any l.toArray listed = [i] := by kernel_rfl) : JE (NextA P l Q (fuel + 1) listed) .normal w0 σ φ fr :=
  JA_step [i] hr (by simp) ⟨⟨o, ho, h⟩, trivial⟩
theorem JA_end {l : List Oper} {fuel : Nat} {listed : Array Bool} (hr : Region.ready .any l.toArray listed = []) (h : JE Q .normal w0 σ φ fr) : JA P l Q w0 σ φ fuel listed fr := by
  intro w s
  cases fuel with
  | zero => exact ⟨hr, h w s⟩
  | succ f => exact ⟨fun _ => h w s, fun i hi => by rw [hr] at hi; cases hi⟩
theorem JC_drawA (hm : P.follows .mixedOrders = true) {id : Nat} {l : List Oper} (n : Nat) (hn : l.length = n) (h : JA P l Q w0 σ φ n (Array.replicate n false) fr) : JC P (.region id l.toArray true) Q w0 σ φ fr := by
  intro w s
  have hn' : l.toArray.size = n := by simpa using hn
  subst hn'
  exact wp_region_any hm (h _ (s.ext ((Below.refl _ _).drew)))
/-- As soon as the order is forced: the rest as a list. -/
theorem JA_norm {l : List Oper} {fuel : Nat} {listed : Array Bool} (fr' : Fr) (σ' : List Res) (φ' : List (Bool × VP)) (h1 : fr' = fr) (h2 : σ' = σ) (h3 : φ' = φ) (h : JA P l Q w0 σ' φ' fuel listed fr') : JA P l Q w0 σ φ fuel listed fr := by
  subst h1 h2 h3; exact h
end
end Go.Fw

/- Plain facts on fractions: the rational number of a sign and two naturals, its canonical form, its order, its size. No program here. -/
namespace Go.Nat9

def sgI (s : Bool) (x : Nat) : Int := if s then -(x : Int) else (x : Int)
theorem sgI_natAbs (s : Bool) (x : Nat) : (sgI s x).natAbs = x := by cases s <;> simp [sgI]
def mkq (s : Bool) (x y : Nat) : Rat := mkRat (sgI s x) y
theorem mkq_zl (s : Bool) (y : Nat) : mkq s 0 y = 0 := by cases s <;> simp [mkq, sgI]
theorem mkq_zr (s : Bool) (x : Nat) : mkq s x 0 = 0 := by simp [mkq]
theorem mkq_num (s : Bool) (x y : Nat) (hy : 0 < y) : (mkq s x y).num.natAbs = x / Nat.gcd x y := by
  have hd : ((Nat.gcd x y : Nat) : Int) ∣ (x : Int) := Int.natCast_dvd_natCast.2 (Nat.gcd_dvd_left _ _)
  unfold mkq
  rw [Rat.num_mkRat, if_neg (by omega), sgI_natAbs, Nat.gcd_comm]
  cases s
  · show ((x : Int) / _).natAbs = _
    rw [← Int.natCast_ediv, Int.natAbs_natCast]
  · show ((-(x : Int)) / _).natAbs = _
    rw [Int.neg_ediv_of_dvd hd, Int.natAbs_neg, ← Int.natCast_ediv, Int.natAbs_natCast]
theorem mkq_den (s : Bool) (x y : Nat) (hy : 0 < y) : (mkq s x y).den = y / Nat.gcd x y := by
  unfold mkq
  rw [Rat.den_mkRat, if_neg (by omega), sgI_natAbs, Nat.gcd_comm]
theorem mkq_lt0 (s : Bool) {x y : Nat} (hx : 0 < x) (hy : 0 < y) : decide (mkq s x y < 0) = s := by
  have hd : ((Nat.gcd x y : Nat) : Int) ∣ (x : Int) := Int.natCast_dvd_natCast.2 (Nat.gcd_dvd_left _ _)
  have hg : 0 < Nat.gcd x y := Nat.gcd_pos_of_pos_left _ hx
  have hq : 0 < x / Nat.gcd x y := Nat.div_pos (Nat.le_of_dvd hx (Nat.gcd_dvd_left _ _)) hg
  have e : (mkq s x y).num = sgI s (x / Nat.gcd x y) := by
    unfold mkq
    rw [Rat.num_mkRat, if_neg (by omega), sgI_natAbs, Nat.gcd_comm]
    cases s
    · show (x : Int) / _ = _
      rw [← Int.natCast_ediv]; rfl
    · show (-(x : Int)) / _ = _
      rw [Int.neg_ediv_of_dvd hd, ← Int.natCast_ediv]; rfl
  have h0 : (0 : Rat) ≤ mkq s x y ↔ 0 ≤ sgI s (x / Nat.gcd x y) := by rw [← Rat.num_nonneg, e]
  have h1 : mkq s x y < 0 ↔ ¬ (0 ≤ sgI s (x / Nat.gcd x y)) := by rw [← Rat.not_le, h0]
  rw [Bool.eq_iff_iff, decide_eq_true_iff, h1]
  generalize x / Nat.gcd x y = z at hq
  cases s <;> simp [sgI] <;> omega
theorem mkq_self (q : Rat) : mkq (decide (q < 0)) q.num.natAbs q.den = q := by
  have h : sgI (decide (q < 0)) q.num.natAbs = q.num := by
    unfold sgI
    by_cases h : q < 0
    · have h1 : ¬ 0 ≤ q.num := by rw [Rat.num_nonneg, Rat.not_le]; exact h
      rw [if_pos (by simpa using h)]; omega
    · have h1 : 0 ≤ q.num := by rw [Rat.num_nonneg]; exact Rat.not_lt.1 h
      rw [if_neg (by simpa using h)]; omega
  unfold mkq; rw [h, Rat.mkRat_self]
theorem mkq_mul (s t : Bool) (x y u v : Nat) : mkq (s != t) (x * u) (y * v) = mkq s x y * mkq t u v := by
  unfold mkq; rw [Rat.mkRat_mul_mkRat]
  congr 1
  cases s <;> cases t <;> simp [sgI, Int.neg_mul, Int.mul_neg]
theorem mkq_neg (s : Bool) (x y : Nat) : mkq (!s) x y = - mkq s x y := by
  unfold mkq; rw [Rat.neg_mkRat]; congr 1; cases s <;> simp [sgI]
theorem mkq_inv (s : Bool) (x y : Nat) : mkq s y x = (mkq s x y)⁻¹ := by
  unfold mkq
  rw [← Rat.divInt_ofNat, ← Rat.divInt_ofNat, Rat.inv_divInt]
  cases s
  · rfl
  · show Rat.divInt (-(y : Int)) (x : Int) = Rat.divInt (y : Int) (-(x : Int))
    rw [Rat.divInt_neg']
theorem mkq_add (s : Bool) (x u : Nat) {y v : Nat} (hy : 0 < y) (hv : 0 < v) : mkq s (x * v + u * y) (y * v) = mkq s x y + mkq s u v := by
  unfold mkq; rw [Rat.mkRat_add_mkRat _ _ (by omega) (by omega)]
  congr 1
  cases s <;> simp [sgI, Int.neg_mul, Int.neg_add]
theorem mkq_add_ge (s t : Bool) (x u : Nat) {y v : Nat} (hst : s ≠ t) (hy : 0 < y) (hv : 0 < v) (h : u * y ≤ x * v) : mkq s (x * v - u * y) (y * v) = mkq s x y + mkq t u v := by
  unfold mkq; rw [Rat.mkRat_add_mkRat _ _ (by omega) (by omega)]
  congr 1
  obtain ⟨d, hd⟩ := Nat.le.dest h
  rw [← hd, Nat.add_sub_cancel_left]
  have e : (x : Int) * (v : Int) = u * y + d := by rw [← Int.natCast_mul, ← hd, Int.natCast_add, Int.natCast_mul]
  cases s <;> cases t
  · exact (hst rfl).elim
  · simp only [sgI, Bool.false_eq_true, if_false, if_true, Int.neg_mul, e]; omega
  · simp only [sgI, Bool.false_eq_true, if_false, if_true, Int.neg_mul, e]; omega
  · exact (hst rfl).elim
theorem mkq_add_le (s t : Bool) (x u : Nat) {y v : Nat} (hst : s ≠ t) (hy : 0 < y) (hv : 0 < v) (h : x * v ≤ u * y) : mkq t (u * y - x * v) (y * v) = mkq s x y + mkq t u v := by
  rw [Rat.add_comm, Nat.mul_comm y v]; exact mkq_add_ge t s u x (fun h => hst h.symm) hv hy h
theorem mkq_eq0 {s : Bool} {x y : Nat} : mkq s x y = 0 ↔ x = 0 ∨ y = 0 := by
  constructor
  · intro h
    rcases Nat.eq_zero_or_pos y with h0 | h0
    · exact .inr h0
    · left
      rw [mkq, Rat.mkRat_eq_zero (by omega)] at h
      have := sgI_natAbs s x
      rw [h] at this; simpa using this.symm
  · rintro (h | h)
    · rw [h, mkq_zl]
    · rw [h, mkq_zr]

/-- The order of two numbers: -1, 0, 1. -/
def cmpQ (p q : Rat) : Int := if p < q then -1 else if q < p then 1 else 0
def sgnQ (q : Rat) : Int := cmpQ q 0
theorem cmpQ_neg {p q : Rat} : cmpQ p q < 0 ↔ p < q := by
  unfold cmpQ; split
  · simp [*]
  · split <;> simp [*]
theorem cmpQ_pos {p q : Rat} : 0 < cmpQ p q ↔ q < p := by
  unfold cmpQ; split
  · rename_i h; simp; exact Rat.not_lt.2 (Rat.le_of_lt h)
  · split <;> simp [*]
theorem cmpQ_le {p q : Rat} : cmpQ p q ≤ 0 ↔ p ≤ q := by rw [← Rat.not_lt, ← cmpQ_pos]; omega
theorem cmpQ_ge {p q : Rat} : 0 ≤ cmpQ p q ↔ q ≤ p := by rw [← Rat.not_lt, ← cmpQ_neg]; omega
theorem cmpQ_zero {p q : Rat} : cmpQ p q = 0 ↔ p = q := by
  constructor
  · intro h; exact Rat.le_antisymm (cmpQ_le.1 (by omega)) (cmpQ_ge.1 (by omega))
  · rintro rfl; unfold cmpQ; rw [if_neg Rat.lt_irrefl, if_neg Rat.lt_irrefl]
theorem cmpQ_lt {p q : Rat} (h : p < q) : cmpQ p q = -1 := by unfold cmpQ; rw [if_pos h]
theorem cmpQ_gt {p q : Rat} (h : q < p) : cmpQ p q = 1 := by unfold cmpQ; rw [if_neg (Rat.not_lt.2 (Rat.le_of_lt h)), if_pos h]
theorem cmpQ_rng (p q : Rat) : -1 ≤ cmpQ p q ∧ cmpQ p q ≤ 1 := by
  unfold cmpQ; split
  · omega
  · split <;> omega
theorem cmpQ_sub (p q : Rat) : sgnQ (p - q) = cmpQ p q := by
  have h1 : p - q < 0 ↔ p < q := by rw [Rat.lt_iff_sub_pos p q, Rat.lt_iff_sub_pos (p - q) 0, Rat.sub_eq_add_neg 0, Rat.neg_sub, Rat.zero_add]
  have h2 : 0 < p - q ↔ q < p := (Rat.lt_iff_sub_pos q p).symm
  unfold sgnQ cmpQ; simp only [h1, h2]
theorem sgnQ_mkq (s : Bool) (x y : Nat) : sgnQ (mkq s x y) = if x = 0 ∨ y = 0 then 0 else if s then -1 else 1 := by
  by_cases h : x = 0 ∨ y = 0
  · rw [if_pos h, mkq_eq0.2 h]; exact cmpQ_zero.2 rfl
  · rw [if_neg h]
    have hl := mkq_lt0 s (x := x) (y := y) (by omega) (by omega)
    have h0 : mkq s x y ≠ 0 := fun e => h (mkq_eq0.1 e)
    cases s
    · refine cmpQ_gt (Rat.lt_of_le_of_ne (Rat.not_lt.1 (by simpa using hl)) (fun e => h0 e.symm))
    · exact cmpQ_lt (by simpa using hl)
theorem natq_lt {x y u v : Nat} (hy : 0 < y) (hv : 0 < v) : mkq false x y < mkq false u v ↔ x * v < u * y := by
  have e1 : ∀ a b : Nat, mkq false a b = (a : Rat) / (b : Rat) := fun a b => by
    show mkRat (a : Int) b = _
    rw [Rat.mkRat_eq_div, Rat.intCast_natCast]
  rw [e1, e1, Rat.div_lt_iff (Rat.natCast_pos.2 hy), Rat.div_def, Rat.mul_assoc, Rat.mul_comm _ (y : Rat), ← Rat.mul_assoc, ← Rat.div_def, Rat.lt_div_iff (Rat.natCast_pos.2 hv), ← Rat.natCast_mul, ← Rat.natCast_mul, Rat.natCast_lt_natCast]
theorem mkq_true (x y : Nat) : mkq true x y = - mkq false x y := mkq_neg false x y
theorem cmpN_cases (n m : Nat) : (n < m ∧ cmpN n m = -1) ∨ (m < n ∧ cmpN n m = 1) ∨ (n = m ∧ cmpN n m = 0) := by
  rcases Nat.lt_trichotomy n m with h | h | h
  · exact .inl ⟨h, cmpN_lt h⟩
  · exact .inr (.inr ⟨h, cmpN_eq h⟩)
  · exact .inr (.inl ⟨h, cmpN_gt h⟩)
theorem cmpQ_of {s t : Bool} {x y u v : Nat} (h : sgnQ (mkq s x y) = sgnQ (mkq t u v)) (h0 : sgnQ (mkq s x y) ≠ 0) : sgnQ (mkq s x y) * cmpN (x * v) (u * y) = cmpQ (mkq s x y) (mkq t u v) := by
  have h1 := sgnQ_mkq s x y
  have h2 := sgnQ_mkq t u v
  by_cases c1 : x = 0 ∨ y = 0
  · rw [if_pos c1] at h1; exact (h0 h1).elim
  by_cases c2 : u = 0 ∨ v = 0
  · rw [if_pos c2] at h2; rw [h2] at h; exact (h0 h).elim
  rw [if_neg c1] at h1
  rw [if_neg c2] at h2
  have hst : s = t := by
    rw [h1, h2] at h
    cases s <;> cases t <;> simp at h <;> rfl
  subst hst
  rw [h1]
  have hy : 0 < y := by omega
  have hv : 0 < v := by omega
  have a1 := natq_lt (x := x) (u := u) hy hv
  have a2 := natq_lt (x := u) (u := x) hv hy
  have a3 : x * v = u * y → mkq false x y = mkq false u v := fun e => Rat.le_antisymm (Rat.not_lt.1 (fun c => by rw [a2] at c; omega)) (Rat.not_lt.1 (fun c => by rw [a1] at c; omega))
  cases s
  · rcases cmpN_cases (x * v) (u * y) with ⟨e, e2⟩ | ⟨e, e2⟩ | ⟨e, e2⟩ <;> rw [e2]
    · rw [cmpQ_lt (a1.2 e)]; rfl
    · rw [cmpQ_gt (a2.2 e)]; rfl
    · rw [cmpQ_zero.2 (a3 e)]; rfl
  · rw [mkq_true, mkq_true]
    rcases cmpN_cases (x * v) (u * y) with ⟨e, e2⟩ | ⟨e, e2⟩ | ⟨e, e2⟩ <;> rw [e2]
    · rw [cmpQ_gt (Rat.neg_lt_neg (a1.2 e))]; rfl
    · rw [cmpQ_lt (Rat.neg_lt_neg (a2.2 e))]; rfl
    · rw [cmpQ_zero.2 (by rw [a3 e])]; rfl

/-- The number has few limbs. -/
def qs (q : Rat) (K : Nat) : Prop := (limbsOf q.num.natAbs).length ≤ K ∧ (limbsOf q.den).length ≤ K
theorem qs.mono {q : Rat} {a b : Nat} (h : qs q a) (hab : a ≤ b) : qs q b := ⟨Nat.le_trans h.1 hab, Nat.le_trans h.2 hab⟩
theorem limbsOf_one_len : (limbsOf 1).length ≤ 1 := limbsOf_len_of_lt (by decide)
theorem qs_mkq (s : Bool) {x y K : Nat} (h1 : (limbsOf x).length ≤ K) (h2 : (limbsOf y).length ≤ K) (h3 : 1 ≤ K) : qs (mkq s x y) K := by
  rcases Nat.eq_zero_or_pos y with h0 | h0
  · subst h0; rw [mkq_zr]; exact ⟨by show (limbsOf 0).length ≤ K; rw [limbsOf_zero]; exact Nat.zero_le _, Nat.le_trans limbsOf_one_len h3⟩
  · refine ⟨?_, ?_⟩
    · rw [mkq_num s x y h0]; exact Nat.le_trans (len_limbsOf_le (Nat.div_le_self _ _)) h1
    · rw [mkq_den s x y h0]; exact Nat.le_trans (len_limbsOf_le (Nat.div_le_self _ _)) h2
theorem limbsOf_den_pos (q : Rat) : 1 ≤ (limbsOf q.den).length := limbsOf_len_pos (Nat.pos_of_ne_zero q.den_nz)
theorem qs.one {q : Rat} {K : Nat} (h : qs q K) : 1 ≤ K := Nat.le_trans (limbsOf_den_pos q) h.2
theorem qs.mul {p q : Rat} {a b c : Nat} (hp : qs p a) (hq : qs q b) (h : a + b ≤ c) : qs (p * q) c := by
  have := hp.one
  rw [← mkq_self p, ← mkq_self q, ← mkq_mul]
  refine qs_mkq _ (Nat.le_trans (len_limbsOf_mul _ _) ?_) (Nat.le_trans (len_limbsOf_mul _ _) ?_) (by omega)
  · have := hp.1; have := hq.1; omega
  · have := hp.2; have := hq.2; omega
theorem mkRat_mkq (n : Int) (d : Nat) : mkRat n d = mkq (decide (n < 0)) n.natAbs d := by
  unfold mkq sgI
  by_cases h : n < 0
  · rw [if_pos (by simpa using h)]; congr 1; omega
  · rw [if_neg (by simpa using h)]; congr 1; omega
theorem qs.add {p q : Rat} {a b c : Nat} (hp : qs p a) (hq : qs q b) (h : a + b + 1 ≤ c) : qs (p + q) c := by
  have hp1 := hp.1; have hp2 := hp.2; have hq1 := hq.1; have hq2 := hq.2
  rw [Rat.add_def', mkRat_mkq]
  refine qs_mkq _ (Nat.le_trans (len_limbsOf_le (m := p.num.natAbs * q.den + q.num.natAbs * p.den) ?_) ?_) (Nat.le_trans (len_limbsOf_mul _ _) (by omega)) (by omega)
  · refine Nat.le_trans (Int.natAbs_add_le _ _) ?_
    rw [Int.natAbs_mul, Int.natAbs_mul, Int.natAbs_natCast, Int.natAbs_natCast]; exact Nat.le_refl _
  · refine Nat.le_trans (len_limbsOf_add _ _) ?_
    have e1 := len_limbsOf_mul p.num.natAbs q.den
    have e2 := len_limbsOf_mul q.num.natAbs p.den
    omega
theorem qs.neg {q : Rat} {K : Nat} (h : qs q K) : qs (-q) K := by
  refine ⟨?_, h.2⟩
  rw [Rat.neg_num, Int.natAbs_neg]; exact h.1
theorem qs.sub {p q : Rat} {a b c : Nat} (hp : qs p a) (hq : qs q b) (h : a + b + 1 ≤ c) : qs (p - q) c := by rw [Rat.sub_eq_add_neg]; exact hp.add hq.neg h
theorem qs.inv {q : Rat} {K : Nat} (h : qs q K) : qs q⁻¹ K := by
  rw [← mkq_self q, ← mkq_inv]; exact qs_mkq _ h.2 h.1 h.one
theorem qs.div {p q : Rat} {a b c : Nat} (hp : qs p a) (hq : qs q b) (h : a + b ≤ c) : qs (p / q) c := by rw [Rat.div_def]; exact hp.mul hq.inv h
theorem qs_zero : qs 0 1 := ⟨by show (limbsOf 0).length ≤ 1; rw [limbsOf_zero]; exact Nat.zero_le _, limbsOf_one_len⟩
theorem qs_small {q : Rat} (h1 : q.num.natAbs < 1000000000) (h2 : q.den < 1000000000) : qs q 1 := ⟨limbsOf_len_of_lt h1, limbsOf_len_of_lt h2⟩

/-- The parts of the canonical form of a number; of the zero value of the type, for none. -/
def fneg : Option Rat → Bool | none => false | some q => decide (q < 0)
def fnum : Option Rat → List Nat | none => [] | some q => limbsOf q.num.natAbs
def fden : Option Rat → List Nat | none => [] | some q => limbsOf q.den
def fval : Option Rat → Rat | none => 0 | some q => q
theorem fval_some (q : Rat) : fval (some q) = q := rfl
theorem some_zero : fneg (some 0) = false ∧ fnum (some 0) = limbsOf 0 ∧ fden (some 0) = limbsOf 1 := ⟨by decide, rfl, rfl⟩
theorem some_mkq0 {s : Bool} {x y : Nat} (h : x = 0 ∨ y = 0) : mkq s x y = 0 := mkq_eq0.2 h
theorem some_mkq {s : Bool} {x y : Nat} (hx : 0 < x) (hy : 0 < y) : fneg (some (mkq s x y)) = s ∧ fnum (some (mkq s x y)) = limbsOf (x / Nat.gcd x y) ∧ fden (some (mkq s x y)) = limbsOf (y / Nat.gcd x y) :=
  ⟨mkq_lt0 s hx hy, by show limbsOf _ = _; rw [mkq_num s x y hy], by show limbsOf _ = _; rw [mkq_den s x y hy]⟩
theorem cmpN_dec (x : Nat) : decide (cmpN x 0 = 0) = decide (x = 0) := by rw [Bool.eq_iff_iff, decide_eq_true_iff, decide_eq_true_iff]; exact cmpN_zero
theorem den_pos (q : Rat) : 0 < q.den := Nat.pos_of_ne_zero q.den_nz
theorem fneg_zero : fneg (some 0) = false := by decide
theorem fnum_zero : fnum (some 0) = [] := limbsOf_zero
theorem fden_zero : fden (some 0) = limbsOf 1 := rfl
theorem qadd_same {p q : Rat} (h : fneg (some p) = fneg (some q)) : mkq (fneg (some p)) (p.num.natAbs * q.den + q.num.natAbs * p.den) (p.den * q.den) = p + q := by
  rw [mkq_add _ _ _ (den_pos p) (den_pos q)]
  conv => lhs; arg 2; rw [h]
  exact congr (congrArg (· + ·) (mkq_self p)) (mkq_self q)
theorem qadd_ge {p q : Rat} (h : fneg (some p) ≠ fneg (some q)) (hle : q.num.natAbs * p.den ≤ p.num.natAbs * q.den) : mkq (fneg (some p)) (p.num.natAbs * q.den - q.num.natAbs * p.den) (p.den * q.den) = p + q := by
  rw [mkq_add_ge _ _ _ _ h (den_pos p) (den_pos q) hle]
  exact congr (congrArg (· + ·) (mkq_self p)) (mkq_self q)
theorem qadd_le {p q : Rat} (h : fneg (some p) ≠ fneg (some q)) (hle : p.num.natAbs * q.den ≤ q.num.natAbs * p.den) : mkq (fneg (some q)) (q.num.natAbs * p.den - p.num.natAbs * q.den) (p.den * q.den) = p + q := by
  rw [mkq_add_le _ _ _ _ h (den_pos p) (den_pos q) hle]
  exact congr (congrArg (· + ·) (mkq_self p)) (mkq_self q)
theorem num_natAbs_zero {q : Rat} (h : q.num.natAbs = 0) : q = 0 := Rat.num_eq_zero.1 (by omega)
theorem sgnQ_num0 {q : Rat} (h : q.num.natAbs = 0) : sgnQ q = 0 := cmpQ_zero.2 (num_natAbs_zero h)
theorem sgnQ_ne {q : Rat} (h0 : ¬ q.num.natAbs = 0) : sgnQ q = if fneg (some q) then -1 else 1 := by
  by_cases h : q < 0
  · rw [if_pos (by show decide (q < 0) = true; simpa using h)]; exact cmpQ_lt h
  · rw [if_neg (by show ¬ decide (q < 0) = true; simpa using h)]
    exact cmpQ_gt (Rat.lt_of_le_of_ne (Rat.not_lt.1 h) (fun e => h0 (by rw [← e]; rfl)))
theorem sgn_lt {p q : Rat} (h : sgnQ p < sgnQ q) : cmpQ p q = -1 := by
  refine cmpQ_lt ?_
  have h1 := cmpQ_rng p 0
  have h2 := cmpQ_rng q 0
  unfold sgnQ at h
  by_cases hp : p < 0
  · have : 0 ≤ q := cmpQ_ge.1 (by have := cmpQ_lt hp; omega)
    grind
  · have h3 : 0 ≤ cmpQ p 0 := cmpQ_ge.2 (Rat.not_lt.1 hp)
    have h4 : 0 < q := cmpQ_pos.1 (by omega)
    have h5 : p ≤ 0 := cmpQ_le.1 (by omega)
    grind
theorem cmpQ_swap (p q : Rat) : cmpQ q p = - cmpQ p q := by
  unfold cmpQ
  by_cases h : p < q
  · have h2 : ¬ q < p := Rat.not_lt.2 (Rat.le_of_lt h)
    rw [if_neg h2, if_pos h]; simp [h]
  · by_cases h2 : q < p
    · simp [h, h2]
    · simp [h, h2]
theorem sgn_gt {p q : Rat} (h : sgnQ q < sgnQ p) : cmpQ p q = 1 := by rw [cmpQ_swap, sgn_lt h]; rfl
theorem sgn_zero {p q : Rat} (h1 : sgnQ p = 0) (h2 : sgnQ q = 0) : cmpQ p q = 0 := cmpQ_zero.2 ((cmpQ_zero.1 h1).trans (cmpQ_zero.1 h2).symm)
/-- The quotient of two integers, and a quotient that may not be. -/
def ofq (n d : Int) : Rat := mkq ((decide (n < 0)) != (decide (d < 0))) n.natAbs d.natAbs
def dvq (p q : Rat) : Option Rat := if q = 0 then none else some (p / q)
def dve (q : Rat) : Int := if q = 0 then 12 else 0
theorem qs_ofq (n d : Int) (hn : n.natAbs < 1000000000 ^ 3) (hd : d.natAbs < 1000000000 ^ 3) : qs (ofq n d) 3 := qs_mkq _ (limbsOf_len_of_lt hn) (limbsOf_len_of_lt hd) (by omega)
theorem ofq_eq (n d : Int) : ofq n d = (n : Rat) / (d : Rat) := by
  unfold ofq mkq
  rcases Int.lt_or_le n 0 with hn | hn <;> rcases Int.lt_or_le d 0 with hd | hd
  · have e : (sgI ((decide (n < 0)) != (decide (d < 0))) n.natAbs) = -n := by simp [sgI, hn, hd]; omega
    rw [e, Rat.mkRat_eq_div, ← Rat.intCast_natCast, show ((d.natAbs : Nat) : Int) = -d from by omega, Rat.intCast_neg, Rat.intCast_neg]
    simp [Rat.div_def]
    grind
  · have e : (sgI ((decide (n < 0)) != (decide (d < 0))) n.natAbs) = n := by simp [sgI, hn, Int.not_lt.2 hd]; omega
    rw [e, Rat.mkRat_eq_div, ← Rat.intCast_natCast, show ((d.natAbs : Nat) : Int) = d from by omega]
  · have e : (sgI ((decide (n < 0)) != (decide (d < 0))) n.natAbs) = -n := by simp [sgI, hd, Int.not_lt.2 hn]; omega
    rw [e, Rat.mkRat_eq_div, ← Rat.intCast_natCast, show ((d.natAbs : Nat) : Int) = -d from by omega, Rat.intCast_neg, Rat.intCast_neg]
    simp [Rat.div_def]
    grind
  · have e : (sgI ((decide (n < 0)) != (decide (d < 0))) n.natAbs) = n := by simp [sgI, Int.not_lt.2 hd, Int.not_lt.2 hn]; omega
    rw [e, Rat.mkRat_eq_div, ← Rat.intCast_natCast, show ((d.natAbs : Nat) : Int) = d from by omega]
end Go.Nat9

/- What functions on fractions and spans return, and what they are given. -/
namespace Go.Fw
open Go Go.RowKit Go.Nat9

/-- the canonical fraction of a number, or the zero value of the type -/
def FO (o : Option Rat) (v : Value) (φo : List VP) : Prop := ∃ (ad : Option Addr) (c : Nat) (be : Option Addr) (e : Nat),
  v = .agg #[.bool (fneg o), .slice ad (fnum o).length c, .slice be (fden o).length e] ∧ φo = [vCells ad (u32s (fnum o)), vCells be (u32s (fden o))]
/-- the same, and an error -/
def FOE (o : Option Rat) (er : Int) (v : Value) (φo : List VP) : Prop := ∃ (ad : Option Addr) (c : Nat) (be : Option Addr) (e : Nat),
  v = .tuple #[.agg #[.bool (fneg o), .slice ad (fnum o).length c, .slice be (fden o).length e], .int .i64 er] ∧ φo = [vCells ad (u32s (fnum o)), vCells be (u32s (fden o))]
/-- a span -/
def SO (o p : Option Rat) (v : Value) (φo : List VP) : Prop := ∃ (ad : Option Addr) (c : Nat) (be : Option Addr) (e : Nat) (ad' : Option Addr) (c' : Nat) (be' : Option Addr) (e' : Nat),
  v = .agg #[.bool (fneg o), .slice ad (fnum o).length c, .slice be (fden o).length e, .bool (fneg p), .slice ad' (fnum p).length c', .slice be' (fden p).length e'] ∧
  φo = [vCells ad (u32s (fnum o)), vCells be (u32s (fden o)), vCells ad' (u32s (fnum p)), vCells be' (u32s (fden p))]
/-- a span and another value -/
def SOE (o p : Option Rat) (er : Value) (v : Value) (φo : List VP) : Prop := ∃ (ad : Option Addr) (c : Nat) (be : Option Addr) (e : Nat) (ad' : Option Addr) (c' : Nat) (be' : Option Addr) (e' : Nat),
  v = .tuple #[.agg #[.bool (fneg o), .slice ad (fnum o).length c, .slice be (fden o).length e, .bool (fneg p), .slice ad' (fnum p).length c', .slice be' (fden p).length e'], er] ∧
  φo = [vCells ad (u32s (fnum o)), vCells be (u32s (fden o)), vCells ad' (u32s (fnum p)), vCells be' (u32s (fden p))]
/-- a sign and limbs of the number q, at most K limbs each -/
structure FIn (s : Bool) (n : Nat) (L : List Nat) (m : Nat) (M : List Nat) (q : Rat) (K : Nat) : Prop where
  num : NIn n L (val L) K
  den : NIn m M (val M) K
  eq : mkq s (val L) (val M) = q
theorem FIn.of {o : Option Rat} {K : Nat} (h : qs (fval o) K) : FIn (fneg o) (fnum o).length (fnum o) (fden o).length (fden o) (fval o) K := by
  cases o with
  | none => exact ⟨⟨rfl, fun _ h => (List.not_mem_nil h).elim, rfl, Nat.zero_le _⟩, ⟨rfl, fun _ h => (List.not_mem_nil h).elim, rfl, Nat.zero_le _⟩, mkq_zl _ _⟩
  | some q =>
    refine ⟨⟨rfl, U32.limbsOf _, rfl, h.1⟩, ⟨rfl, U32.limbsOf _, rfl, h.2⟩, ?_⟩
    show mkq (decide (q < 0)) (val (limbsOf _)) (val (limbsOf _)) = q
    rw [val_limbsOf, val_limbsOf, mkq_self]
theorem FIn.some {q : Rat} {K : Nat} (h : qs q K) : FIn (fneg (some q)) (fnum (some q)).length (fnum (some q)) (fden (some q)).length (fden (some q)) q K := FIn.of (o := Option.some q) h
theorem FIn.none {K : Nat} : FIn false 0 [] 0 [] 0 K := ⟨⟨rfl, fun _ h => (List.not_mem_nil h).elim, rfl, Nat.zero_le _⟩, ⟨rfl, fun _ h => (List.not_mem_nil h).elim, rfl, Nat.zero_le _⟩, mkq_zl _ _⟩
theorem FIn.mono {s : Bool} {n m K K' : Nat} {L M : List Nat} {q : Rat} (g : FIn s n L m M q K) (h : K ≤ K') : FIn s n L m M q K' := ⟨g.num.mono h, g.den.mono h, g.eq⟩
theorem FIn.qs {s : Bool} {n m K : Nat} {L M : List Nat} {q : Rat} (g : FIn s n L m M q K) : qs q (K + 1) := by
  rw [← g.eq]
  have h1 := g.num.sz; have h2 := g.num.le; have h3 := g.den.sz; have h4 := g.den.le
  exact qs_mkq _ (by omega) (by omega) (by omega)
theorem FIn.inv {q : Rat} {K : Nat} (h : Nat9.qs q K) : FIn (fneg (Option.some q)) (fden (Option.some q)).length (fden (Option.some q)) (fnum (Option.some q)).length (fnum (Option.some q)) q⁻¹ K :=
  ⟨⟨rfl, U32.limbsOf _, rfl, h.2⟩, ⟨rfl, U32.limbsOf _, rfl, h.1⟩, (mkq_inv _ _ _).trans (congrArg (·⁻¹) (FIn.some h).eq)⟩
theorem NIn.num {q : Rat} {K : Nat} (h : Nat9.qs q K) : NIn (fnum (Option.some q)).length (fnum (Option.some q)) q.num.natAbs K := NIn.of h.1
theorem NIn.den {q : Rat} {K : Nat} (h : Nat9.qs q K) : NIn (fden (Option.some q)).length (fden (Option.some q)) q.den K := NIn.of h.2
theorem u64_neg1 (n : Int) (h : n < 0) (h2 : -9223372036854775808 ≤ n) : IntKind.u64.wrap n = n + 18446744073709551616 := by
  simp [IntKind.wrap, IntKind.bits, IntKind.signed]; omega
theorem u64_neg2 (n : Int) (h : n < 0) (h2 : -9223372036854775808 ≤ n) : IntKind.u64.wrap (0 - (n + 18446744073709551616)) = ((n.natAbs : Nat) : Int) := by
  simp [IntKind.wrap, IntKind.bits, IntKind.signed]; omega
theorem i64_of {x y : Int} (h : x = y) (h1 : -9223372036854775808 ≤ y) (h2 : y ≤ 9223372036854775807) : IntKind.i64.wrap x = y := by subst h; exact IntWalk.i64_in _ ⟨h1, h2⟩
end Go.Fw

/- Spans of fractions as plain numbers: what the functions of issue and of its reference compute. No program here. -/
namespace Go.Nat9

def vld (p q : Rat) : Bool := decide (0 ≤ p) && decide (p ≤ q)
theorem vld_t {p q : Rat} (h : 0 ≤ sgnQ p) : vld p q = decide (cmpQ p q ≤ 0) := by
  have h1 : 0 ≤ p := cmpQ_ge.1 h
  unfold vld
  rw [decide_eq_true h1, Bool.true_and, Bool.eq_iff_iff, decide_eq_true_iff, decide_eq_true_iff]
  exact cmpQ_le.symm
theorem vld_f {p q : Rat} (h : ¬ 0 ≤ sgnQ p) : vld p q = false := by
  have h1 : ¬ 0 ≤ p := fun c => h (cmpQ_ge.2 c)
  unfold vld
  rw [decide_eq_false h1, Bool.false_and]
theorem vld_iff {p q : Rat} : vld p q = true ↔ 0 ≤ p ∧ p ≤ q := by unfold vld; simp
def v2 (p1 p2 p3 p4 : Rat) : Bool := vld p1 p2 && vld p3 p4
def onv (b : Bool) (q : Rat) : Option Rat := if b then some q else none
def er1 (b : Bool) : Int := if b then 0 else 1
theorem onv_t (q : Rat) : onv true q = some q := rfl
theorem onv_f (q : Rat) : onv false q = none := rfl
theorem qs_onv {b : Bool} {q : Rat} {K : Nat} (h : qs q K) : qs (fval (onv b q)) K := by
  cases b with
  | true => exact h
  | false => exact qs.mono qs_zero h.one
theorem qs_dvq {p q : Rat} {a b c : Nat} (hp : qs p a) (hq : qs q b) (h : a + b ≤ c) : qs (fval (dvq p q)) c := by
  unfold dvq
  split
  · exact qs.mono qs_zero (by have := hp.one; omega)
  · exact hp.div hq h
def oneQ : Rat := ofq 1 1
theorem oneQ_eq : oneQ = 1 := by decide +kernel
/-- Survival: whether there is a span, and the error. -/
def svV (q1 q2 q3 q4 : Rat) : Bool := v2 q1 q2 q3 q4 && (!decide (q3 = 0) && !decide (oneQ < fval (dvq q1 q4)))
def svE (q1 q2 q3 q4 : Rat) : Int := if v2 q1 q2 q3 q4 then (if q3 = 0 then 12 else if oneQ < fval (dvq q1 q4) then 10 else 0) else 1
def svH (q2 q3 : Rat) : Rat := if oneQ < fval (dvq q2 q3) then oneQ else fval (dvq q2 q3)
/-- Meet. -/
def mlo (p q : Rat) : Rat := if p < q then q else p
def mhi (p q : Rat) : Rat := if q < p then q else p
def mtV (q1 q2 q3 q4 : Rat) : Bool := v2 q1 q2 q3 q4 && vld (mlo q1 q3) (mhi q2 q4)
/-- Bullion. -/
def blV (q1 q2 q3 q4 q5 q6 : Rat) : Bool := (v2 q1 q2 q3 q4 && vld q5 q6) && !decide (oneQ < q6)
def tm (b : Bool) (p q : Rat) : Rat := fval (onv b (p * q))
def thou : Rat := ofq 1 1000
def bl1 (q1 q2 q3 q4 : Rat) : Rat := tm (v2 q1 q2 q3 q4) q1 q3
def bl2 (q1 q2 q3 q4 : Rat) : Rat := tm (v2 q1 q2 q3 q4) q2 q4
def bl3 (q1 q2 q3 q4 q5 q6 : Rat) : Rat := bl1 (bl1 q1 q2 q3 q4) (bl2 q1 q2 q3 q4) q5 q6
def bl4 (q1 q2 q3 q4 q5 q6 : Rat) : Rat := bl2 (bl1 q1 q2 q3 q4) (bl2 q1 q2 q3 q4) q5 q6
def blW (q1 q2 q3 q4 q5 q6 : Rat) : Bool := v2 (bl3 q1 q2 q3 q4 q5 q6) (bl4 q1 q2 q3 q4 q5 q6) thou thou
def blO (q1 q2 q3 q4 q5 q6 : Rat) : Option Rat × Option Rat × Int :=
  if v2 q1 q2 q3 q4 && vld q5 q6 then
    (if oneQ < q6 then (none, none, 2)
     else (onv (blW q1 q2 q3 q4 q5 q6) (bl3 q1 q2 q3 q4 q5 q6 * thou), onv (blW q1 q2 q3 q4 q5 q6) (bl4 q1 q2 q3 q4 q5 q6 * thou), er1 (blW q1 q2 q3 q4 q5 q6)))
  else (none, none, 1)
theorem qs_one : qs oneQ 1 := by rw [oneQ_eq]; exact qs_small (by decide) (by decide)
theorem qs_thou : qs thou 3 := qs_ofq 1 1000 (by decide) (by decide)
theorem qs_tm {b : Bool} {p q : Rat} {x y c : Nat} (hp : qs p x) (hq : qs q y) (h : x + y ≤ c) : qs (tm b p q) c := qs_onv (hp.mul hq h)
/-- In the reference's Survival the quotients make a valid span, and Meet with 0 to 1 is as here. -/
theorem sv_meet {q1 q2 q3 q4 : Rat} (hv : v2 q1 q2 q3 q4 = true) (h0 : ¬ q3 = 0) :
    mtV (fval (dvq q1 q4)) (fval (dvq q2 q3)) (ofq 0 1) (ofq 1 1) = !decide (oneQ < fval (dvq q1 q4)) ∧
    mlo (fval (dvq q1 q4)) (ofq 0 1) = fval (dvq q1 q4) ∧ mhi (fval (dvq q2 q3)) (ofq 1 1) = svH q2 q3 := by
  unfold v2 at hv
  rw [Bool.and_eq_true, vld_iff, vld_iff] at hv
  obtain ⟨⟨a1, a2⟩, a3, a4⟩ := hv
  have h3 : 0 < q3 := Rat.lt_of_le_of_ne a3 (fun e => h0 e.symm)
  have h4 : 0 < q4 := by grind
  have h40 : ¬ q4 = 0 := by grind
  have e1 : fval (dvq q1 q4) = q1 / q4 := by rw [dvq, if_neg h40]; rfl
  have e2 : fval (dvq q2 q3) = q2 / q3 := by rw [dvq, if_neg h0]; rfl
  have i4 : 0 < q4⁻¹ := Rat.inv_pos.2 h4
  have i3 : 0 < q3⁻¹ := Rat.inv_pos.2 h3
  have p1 : 0 ≤ q1 / q4 := by rw [Rat.div_def]; exact Rat.mul_nonneg a1 (Rat.le_of_lt i4)
  have p2 : q1 / q4 ≤ q2 / q3 := by
    have t1 : q1 / q4 ≤ q1 / q3 := by
      rw [Rat.div_def, Rat.div_def]
      refine Rat.mul_le_mul_of_nonneg_left ?_ a1
      have u1 : q3 * q4⁻¹ ≤ q4 * q4⁻¹ := Rat.mul_le_mul_of_nonneg_right a4 (Rat.le_of_lt i4)
      rw [Rat.mul_inv_cancel _ h40] at u1
      have u2 : q3⁻¹ * (q3 * q4⁻¹) ≤ q3⁻¹ * 1 := Rat.mul_le_mul_of_nonneg_left u1 (Rat.le_of_lt i3)
      rw [← Rat.mul_assoc, Rat.inv_mul_cancel _ h0, Rat.one_mul, Rat.mul_one] at u2
      exact u2
    have t2 : q1 / q3 ≤ q2 / q3 := by
      rw [Rat.div_def, Rat.div_def]; exact Rat.mul_le_mul_of_nonneg_right a2 (Rat.le_of_lt i3)
    exact Rat.le_trans t1 t2
  have z0 : ofq 0 1 = 0 := by decide +kernel
  have z1 : ofq 1 1 = 1 := by decide +kernel
  rw [e1, oneQ_eq]
  have l1 : mlo (q1 / q4) (ofq 0 1) = q1 / q4 := by rw [mlo, z0, if_neg (Rat.not_lt.2 p1)]
  have l2 : mhi (q2 / q3) (ofq 1 1) = if 1 < q2 / q3 then 1 else q2 / q3 := by rw [mhi, z1]
  refine ⟨?_, l1, ?_⟩
  · rw [e2, mtV, l1, l2, z0, z1]
    have v : v2 (q1 / q4) (q2 / q3) 0 1 = true := by
      unfold v2; rw [Bool.and_eq_true, vld_iff, vld_iff]; exact ⟨⟨p1, p2⟩, by decide, by decide⟩
    rw [v, Bool.true_and, Bool.eq_iff_iff, vld_iff]
    simp only [Bool.not_eq_true', decide_eq_false_iff_not, Rat.not_lt]
    constructor
    · rintro ⟨_, h⟩
      split at h <;> grind
    · intro h
      refine ⟨p1, ?_⟩
      split <;> grind
  · rw [e2, l2, svH, oneQ_eq, e2]
end Go.Nat9

/-! Sizes of what laws compare. No program here. -/
namespace Go.Nat9
theorem qs_mlo {p q : Rat} {K : Nat} (hp : qs p K) (hq : qs q K) : qs (mlo p q) K := by unfold mlo; split <;> assumption
theorem qs_mhi {p q : Rat} {K : Nat} (hp : qs p K) (hq : qs q K) : qs (mhi p q) K := by unfold mhi; split <;> assumption
end Go.Nat9

/- The program logic: fields of elements; spans as cells. -/
namespace Go.Fw
open Go Go.RowKit Go.Nat9

section
variable {P : Program} {Q : Exit → Act → World → Prop} {w0 : Ctx} {σ σ' : List Res} {φ φ' : List (Bool × VP)} {fr : Fr} {ops : Array Oper} {rest : List Oper}
  {d : Nat} {ty : TypeId} {pos : String} {aft : Array Edge}
theorem JL_fieldAddrE {s : TypeId} {x : Operand} {f j off : Nat} {ad : Option Addr} {xs : List Value} (hf : fOf P s f = some off) (hx : Ev fr x (ptrAt ad j)) (hr : Reads w0 σ φ ad xs) (hlt : j < xs.length)
    (k : JL P ops Q w0 σ φ rest (upd fr d (ptrAt ad (j + off)))) : JL P ops Q w0 σ φ (⟨some d, .fieldAddr s x f, ty, pos, aft, none⟩ :: rest) fr := by
  refine JL_pureSt _ (fun w st => ?_) k
  obtain ⟨X, hc⟩ := hr w st
  obtain ⟨b, o, rfl, _, _⟩ := hc j _ (List.getElem?_eq_getElem hlt)
  unfold fOf at hf
  split at hf
  · rename_i fields hu
    split at hf
    · rename_i fd hfd
      split at hf
      · rename_i i hi
        split at hf
        · cases hf
        · rename_i hne
          simp at hf
          subst hf
          simp [execOp, hx.eq, Instr.fieldAt, run_underlying hu, hfd, Instr.sureAddr, fieldPlace, sizeOf, typeInfo, hi, hne, ptrAt, add_lit', Nat.add_assoc]
      · cases hf
    · cases hf
  · cases hf
end

/-- A span's cells. -/
structure SpV where
  s : Bool
  a : Option Addr
  n : Nat
  c : Nat
  b : Option Addr
  m : Nat
  e : Nat
  s' : Bool
  a' : Option Addr
  n' : Nat
  c' : Nat
  b' : Option Addr
  m' : Nat
  e' : Nat
def SpV.cells (x : SpV) : List Value := [.bool x.s, .slice x.a x.n x.c, .slice x.b x.m x.e, .bool x.s', .slice x.a' x.n' x.c', .slice x.b' x.m' x.e']
def SpV.nil : SpV := ⟨false, none, 0, 0, none, 0, 0, false, none, 0, 0, none, 0, 0⟩
def spCells : List SpV → List Value
  | [] => []
  | x :: l => x.cells ++ spCells l
theorem spCells_len : ∀ l : List SpV, (spCells l).length = 6 * l.length
  | [] => rfl
  | x :: l => by rw [spCells, List.length_append, spCells_len l]; simp [SpV.cells]; omega
theorem spCells_get : ∀ (l : List SpV) (k j : Nat), k < l.length → j < 6 → (spCells l)[k * 6 + j]? = (l.getD k SpV.nil).cells[j]?
  | x :: l, 0, j, _, hj => by
    rw [spCells, Nat.zero_mul, Nat.zero_add, List.getElem?_append_left (by simp [SpV.cells]; omega)]; rfl
  | x :: l, k + 1, j, hk, hj => by
    rw [spCells, show (k + 1) * 6 + j = 6 + (k * 6 + j) from by omega, List.getElem?_append_right (by simp [SpV.cells])]
    rw [show 6 + (k * 6 + j) - x.cells.length = k * 6 + j from by simp [SpV.cells]]
    rw [spCells_get l k j (by simpa using hk) hj]
    rfl
def SpV.ok (x : SpV) : Prop := x.n ≤ 4 ∧ x.m ≤ 4 ∧ x.n' ≤ 4 ∧ x.m' ≤ 4
theorem spGet1 {l : List SpV} {k : Nat} (h : k < l.length) : (spCells l)[k * 6 + 0 + 1 + 0]? = some (.slice (l.getD k SpV.nil).a (l.getD k SpV.nil).n (l.getD k SpV.nil).c) := spCells_get l k 1 h (by omega)
theorem spGet2 {l : List SpV} {k : Nat} (h : k < l.length) : (spCells l)[k * 6 + 0 + 2 + 0]? = some (.slice (l.getD k SpV.nil).b (l.getD k SpV.nil).m (l.getD k SpV.nil).e) := spCells_get l k 2 h (by omega)
theorem spGet3 {l : List SpV} {k : Nat} (h : k < l.length) : (spCells l)[k * 6 + 3 + 1 + 0]? = some (.slice (l.getD k SpV.nil).a' (l.getD k SpV.nil).n' (l.getD k SpV.nil).c') := spCells_get l k 4 h (by omega)
theorem spGet4 {l : List SpV} {k : Nat} (h : k < l.length) : (spCells l)[k * 6 + 3 + 2 + 0]? = some (.slice (l.getD k SpV.nil).b' (l.getD k SpV.nil).m' (l.getD k SpV.nil).e') := spCells_get l k 5 h (by omega)
end Go.Fw

/-! The program logic: strings; a state that begins anew. -/
namespace Go.Fw
open Go Go.RowKit Go.Nat9

section
variable {P : Program} {Q : Exit → Act → World → Prop} {w0 : Ctx} {σ σ' : List Res} {φ φ' : List (Bool × VP)} {fr : Fr} {ops : Array Oper} {rest : List Oper}
  {d : Nat} {ty : TypeId} {pos : String} {aft : Array Edge}
theorem JL_eqlS {t t' : TypeId} {x y : Operand} {a b : ByteArray} (hx : Ev fr x (.string a)) (hy : Ev fr y (.string b)) (n : JL P ops Q w0 σ φ rest (upd fr d (.bool (a.toList == b.toList)))) : JL P ops Q w0 σ φ (⟨some d, .binOp .eql t x y t', ty, pos, aft, none⟩ :: rest) fr :=
  JL_pure _ (fun w => by
    simp only [execOp, hx.eq, hy.eq, eqGuard_at_string, binOp_string_eql, Sem.run_bind, Sem.run_pure, Result.andThen_ok]) n
theorem JL_neqS {t t' : TypeId} {x y : Operand} {a b : ByteArray} (hx : Ev fr x (.string a)) (hy : Ev fr y (.string b)) (n : JL P ops Q w0 σ φ rest (upd fr d (.bool (!(a.toList == b.toList))))) : JL P ops Q w0 σ φ (⟨some d, .binOp .neq t x y t', ty, pos, aft, none⟩ :: rest) fr :=
  JL_pure _ (fun w => by
    simp only [execOp, hx.eq, hy.eq, eqGuard_at_string, binOp_string_neq, Sem.run_bind, Sem.run_pure, Result.andThen_ok]) n
theorem JL_addS {t t' : TypeId} {x y : Operand} {a b : ByteArray} (hx : Ev fr x (.string a)) (hy : Ev fr y (.string b)) (hlen : a.size + b.size ≤ 9223372036854775807) (n : JL P ops Q w0 σ φ rest (upd fr d (.string (a ++ b)))) : JL P ops Q w0 σ φ (⟨some d, .binOp .add t x y t', ty, pos, aft, none⟩ :: rest) fr :=
  JL_pure _ (fun w => by
    simp only [execOp, hx.eq, hy.eq, eqGuard_at_string, binOp_string_add, run_string_add_sum (P := P) (w := w) a b hlen, Sem.run_bind, Sem.run_pure, Result.andThen_ok]) n
/-- From here on the world is looked at anew: what was own stays below; what lies below keeps being there. -/
theorem JC_rebase {c : Code} (k : ∀ w1 : Ctx, Below w0.w.heap.size w0.w w1.w → w0.w.heap.size ≤ w1.w.heap.size → (∀ p ∈ φ, ∀ σ2 φ2 w, St w1 w σ2 φ2 → p.2.holds (fun _ => False) w) → JC P c Q w1 [] [] fr) : JC P c Q w0 σ φ fr := by
  intro w s
  refine k ⟨w, fun _ => False, fun _ h => h.elim⟩ s.base s.base.size ?_ w ⟨Below.refl _ _, fun r hr => (by cases hr), fun r hr => (by cases hr), List.Pairwise.nil, fun p hp => (by cases hp)⟩
  intro p hp σ2 φ2 w' s'
  refine p.2.mono _ _ w w' (s.views p hp) s'.base.size (fun k hk _ => ?_) (fun _ _ h => h.elim)
  exact s'.base.block k hk
theorem JE_retB {w1 : Ctx} {fn : Func} {Post : Value → List VP → Prop} {rs : List ResultVar} {vs : List Value} (hb : Below w0.w.heap.size w0.w w1.w) (hle : w0.w.heap.size ≤ w1.w.heap.size) (hr : fn.results = rs.toArray) (hv : RVs P σ fr rs vs) (hP : Post (retOf vs) []) :
    JE (bodyPost P fn (PostY w0 Post)) .ret w1 σ φ fr := by
  intro w s
  refine bodyPost_of (run_results hr hv s) ⟨_, [], rfl, hP, ?_, fun p hp => (by cases hp)⟩
  exact hb.trans (s.base.mono hle)
end
end Go.Fw

/-! The program logic: elements of arrays; contracts whose answer is known. -/
namespace Go.Fw
open Go Go.RowKit Go.Nat9

def arOf (P : Program) (t : TypeId) : Option (Nat × Nat) :=
  match P.underlying t with
  | some (.array len e) => match P.info? e with
    | some i => some (len, i.size)
    | none => none
  | _ => none
section
variable {P : Program} {Q : Exit → Act → World → Prop} {w0 : Ctx} {σ σ' : List Res} {φ φ' : List (Bool × VP)} {fr : Fr} {ops : Array Oper} {rest : List Oper}
  {d : Nat} {ty : TypeId} {pos : String} {aft : Array Edge}
theorem JL_idxArr {t : TypeId} {x y : Operand} {len sz b o : Nat} {kk : IntKind} {a : Int} (k : Nat) (hs : arOf P t = some (len, sz)) (hx : Ev fr x (.pointer (some ⟨b, o, none⟩))) (hy : Ev fr y (.int kk a)) (ha : a = (k : Int)) (hk : k < len)
    (n : JL P ops Q w0 σ φ rest (upd fr d (.pointer (some ⟨b, o + k * sz, none⟩)))) : JL P ops Q w0 σ φ (⟨some d, .indexAddr t x y, ty, pos, aft, none⟩ :: rest) fr := by
  refine JL_pure _ (fun w => ?_) n
  subst ha
  unfold arOf at hs
  split at hs
  · rename_i l e hu
    split at hs
    · rename_i i hi
      simp only [Option.some.injEq, Prod.mk.injEq] at hs
      obtain ⟨rfl, rfl⟩ := hs
      simp [execOp, hx.eq, hy.eq, Instr.indexAt, run_underlying hu, asIntOf, sizeOf, typeInfo, hi, hk, Instr.sureAddr, add_lit']
    · cases hs
  · cases hs
theorem JL_guard_un {op : Op} {j t : Nat} {want : Bool} (hj : (ops[j]?).bind (·.dst) = some t) (hb : Lk fr t undef)
    (k : JL P ops Q w0 σ φ rest (upd fr d undef)) : JL P ops Q w0 σ φ (⟨some d, op, ty, pos, aft, some (j, want)⟩ :: rest) fr := by
  intro w s
  have h := k w s
  have hw : Region.wanted (⟨some d, op, ty, pos, aft, some (j, want)⟩ : Oper) (yielded ops (act fr).tmps) = false := by
    have hl := look_getD fr t
    rw [hb.eq] at hl
    simp only [Region.wanted, yielded, hj, Option.bind_some]
    rw [Array.getD_eq_getD_getElem?] at hl
    cases h1 : (act fr).tmps[t]? with
    | none => cases want <;> rfl
    | some u => 
      rw [h1] at hl
      obtain rfl : u = undef := hl
      cases want <;> rfl
  unfold wpList
  rw [if_neg (by rw [hw]; simp)]
  rw [act_put]
  exact h
end
theorem con_true {P : Program} {f : FuncId} {vs : List Value} {φin : List VP} {b : Bool} (h : b = true) (c : ConF P f vs φin (fun v φo => v = .bool b ∧ φo = [])) : ConF P f vs φin (fun v φo => v = .bool true ∧ φo = []) := h ▸ c
theorem con_false {P : Program} {f : FuncId} {vs : List Value} {φin : List VP} {b : Bool} (h : b = false) (c : ConF P f vs φin (fun v φo => v = .bool b ∧ φo = [])) : ConF P f vs φin (fun v φo => v = .bool false ∧ φo = []) := h ▸ c
end Go.Fw

/- A region that draws its order, in which one operation of the prefix may come after the first store. -/
namespace Go.Fw
open Go Go.RowKit

section
variable {P : Program} {Q : Exit → Act → World → Prop} {w0 : Ctx} {σ : List Res} {φ : List (Bool × VP)} {fr : Fr} {ops : Array Oper} {rest : List Oper}
def lateOk (l : List Oper) (n e : Nat) (ds : List (Nat × List Nat)) : Bool :=
  ds.length == n && decide (n < l.length) && decide (e < n) &&
  ((List.range l.length).all fun i => (directs l i).all fun j => j < i) &&
  ((List.range n).all fun i => match ds[i]? with | some (d, ps) => stepOk l i d ps | none => false) &&
  ((ds.map (·.1)).Nodup : Bool) &&
  ((List.range n).all fun i => i == e || (reach l n n).contains i) &&
  ((List.range l.length).all fun t => t ≤ n || (List.range t).all fun i => (reach l t t).contains i)
structure LateOk (l : List Oper) (np e : Nat) (ds : List (Nat × List Nat)) : Prop where
  len : ds.length = np
  lt : np < l.length
  elt : e < np
  early : ∀ i, i < l.length → ∀ j ∈ directs l i, j < i
  step : ∀ i d ps, ds[i]? = some (d, ps) → ∃ o, l[i]? = some o ∧ o.dst = some d ∧ (∀ T, o.op = .alloc T → o.guard = none) ∧ ∀ j ∈ ps, j ∈ directs l i
  nodup : (ds.map (·.1)).Nodup
  late : ∀ i, i < np → i ≠ e → i ∈ reach l np np
  tail : ∀ t, np < t → t < l.length → ∀ i, i < t → i ∈ reach l t t
theorem lateOk_spec {l : List Oper} {np e : Nat} {ds : List (Nat × List Nat)} (h : lateOk l np e ds = true) : LateOk l np e ds := by
  unfold lateOk at h
  simp only [Bool.and_eq_true, decide_eq_true_eq, beq_iff_eq, List.all_eq_true, List.mem_range, Bool.or_eq_true] at h
  obtain ⟨⟨⟨⟨⟨⟨⟨h1, h2⟩, he⟩, h3⟩, h4⟩, h5⟩, h7⟩, h6⟩ := h
  refine ⟨h1, h2, he, h3, ?_, h5, ?_, ?_⟩
  · intro i d ps hi
    have hlt : i < np := by rw [← h1]; exact (List.getElem?_eq_some_iff.1 hi).1
    have := h4 i hlt
    rw [hi] at this
    unfold stepOk at this
    simp only at this
    split at this
    · rename_i o ho
      simp only [Bool.and_eq_true, beq_iff_eq, List.all_eq_true] at this
      refine ⟨o, ho, this.1.1, fun T hT => ?_, fun j hj => ?_⟩
      · have h := this.1.2
        simpa [isAlloc, hT] using h
      have := this.2 j hj
      simpa using this
    · cases this
  · intro i hi hne
    rcases h7 i hi with h | h
    · exact absurd h hne
    · simpa using h
  · intro t ht htl i hi
    rcases h6 t htl with h | h
    · omega
    · have := h i hi
      simpa using this
theorem Pre.step0 {l : List Oper} {np n e : Nat} {b : List Value} {ss : List Stp} {listed : Array Bool} {vals : Nat → Value} {bs : Nat → Nat} {a : Act} {w : World} (hok : LateOk l np e (ss.map fun s => (s.d, s.preds)))
    (hob : Obls P l w0 σ φ n b ss ss l) (hp : Pre w0 σ φ n b ss listed vals bs a w) {i : Nat} {s : Stp} {o : Oper} (hs : ss[i]? = some s) (ho : l[i]? = some o) (hsz : i < listed.size) (hun : listed.getD i true = false) (hpr : ∀ j ∈ directs l i, listed.getD j false = true) :
    ∀ {Q : Exit → Act → World → Prop}, if Region.wanted o (yielded l.toArray a.tmps) then o.wp P a w (fun a' w' => ∃ vals' bs', Pre w0 σ φ n b ss (listed.setIfInBounds i true) vals' bs' a' w') Q ∨ (o.asks P a w ∧ LetsOut Q)
      else (∃ vals' bs', Pre w0 σ φ n b ss (listed.setIfInBounds i true) vals' bs' (a.put o.dst undef) w) := by
  obtain ⟨o', ho', hdst, hgd, hps⟩ := hok.step i s.d s.preds (by rw [List.getElem?_map, hs]; rfl)
  obtain rfl : o = o' := by rw [ho] at ho'; simpa using ho'
  have hob' := hob.get i s o hs ho
  have hunf : listed.getD i false = false := by simpa [Array.getD, hsz] using hun
  have hdi : (ss.map (·.d))[i]? = some s.d := by rw [List.getElem?_map, hs]; rfl
  have hnd : (ss.map (·.d)).Nodup := by have := hok.nodup; rwa [List.map_map] at this
  intro Q
  have hfr := hp.fr
  subst hfr
  unfold Obl at hob'
  cases hal : s.al with
  | some p =>
    obtain ⟨T, z⟩ := p
    rw [hal] at hob'
    rw [if_pos (by simp [Region.wanted, hgd T hob'.1])]
    refine .inl (alloc_wp hob'.1 hdst hob'.2 ⟨setV vals i (.pointer (some ⟨w.heap.size, 0, none⟩)), setN bs i w.heap.size, ?_⟩)
    have hst := (hp.st.addBox T z)
    have hperm : (σ ++ exOf (listed.setIfInBounds i true) (setN bs i w.heap.size) ss 0).Perm ((σ ++ exOf listed bs ss 0) ++ [box w.heap.size T z]) := by
      rw [List.append_assoc]
      refine List.Perm.append_left _ ?_
      have := exOf_new (listed := listed) (bs := bs) (x := w.heap.size) ss 0 i s hs hal (by simpa using hsz) (by simpa using hunf)
      simpa using this
    refine ⟨act_pends_put n b _ hnd vals i s.d hdi _, hst.perm hperm, ?_, ?_⟩
    · intro j s' hj hne hl
      by_cases h : j = i
      · subst h; simp [setV, setN]
      · rw [getD_set_other _ _ _ (fun e => h e.symm)] at hl
        have := hp.made j s' hj hne hl
        simp [setV, setN, h, this]
    · intro j s' hj hn hl
      have h : j ≠ i := by rintro rfl; rw [hs] at hj; simp at hj; subst hj; rw [hal] at hn; cases hn
      rw [getD_set_other _ _ _ (fun e => h e.symm)] at hl
      have hf := hp.fact j s' hj hn hl
      rw [show setV vals i _ j = vals j from by simp [setV, h]]
      refine VP.mono _ _ _ w _ hf (by simp) (fun k hk _ => Below.heap_alloc _ _ _ hk) ?_
      intro k hk hX
      rcases hX with ⟨r, hr, hrk⟩ | hX
      · rcases List.mem_append.1 (hperm.mem_iff.1 hr) with hr | hr
        · exact .inl ⟨r, hr, hrk⟩
        · obtain rfl := List.mem_singleton.1 hr
          simp [box] at hrk
          omega
      · exact .inr hX
  | none =>
    rw [hal] at hob'
    have hst : St w0 w (σ ++ exOf listed bs ss 0) (factsOf ss vals s.preds ++ (φ ++ listedFacts listed vals ss 0)) := by
      refine ⟨hp.st.base, hp.st.own, hp.st.fresh, hp.st.dist, fun p hpm => ?_⟩
      rcases List.mem_append.1 hpm with hpm | hpm
      · obtain ⟨j, hj, rfl⟩ := mem_factsOf hpm
        have hjl := hpr j (hps j hj)
        have hji : j < i := hok.early i (List.getElem?_eq_some_iff.1 ho).1 j (hps j hj)
        have hjs : j < ss.length := by have := (List.getElem?_eq_some_iff.1 hs).1; omega
        have hg : ss[j]? = some ss[j] := List.getElem?_eq_getElem hjs
        rw [getF_get hg]
        cases hal' : (ss[j]).al with
        | none => exact hp.fact j _ hg hal' hjl
        | some q => exact trivial
      · rcases List.mem_append.1 hpm with hpm | hpm
        · exact hp.st.views p hpm
        · obtain ⟨j, s', h1, h2, h3, rfl⟩ := mem_listedFacts ss 0 hpm
          simp only [Nat.zero_add] at h3 ⊢
          exact hp.fact j s' h1 h2 h3
    refine wpList_one (fun c a w h => h) (fun h => by obtain ⟨a, w, h⟩ := h; exact h) (hob' vals (exOf listed bs ss 0) (listedFacts listed vals ss 0) w hst) ?_
    rintro a' w' ⟨v, φ'', rfl, hst', hF, hsub⟩
    refine ⟨setV vals i v, bs, ?_⟩
    have hex : exOf (listed.setIfInBounds i true) bs ss 0 = exOf listed bs ss 0 := exOf_congr ss 0 fun j s' hj hne => by
      have h : j ≠ i := by rintro rfl; rw [hs] at hj; simp at hj; subst hj; exact hne hal
      rw [Nat.zero_add, getD_set_other _ _ _ (fun e => h e.symm)]
      exact ⟨rfl, fun _ => rfl⟩
    refine ⟨act_pends_put n b _ hnd vals i s.d hdi v, ?_, ?_, ?_⟩
    · rw [hex]
      exact hst'.weaken fun p hp' => hsub p (List.mem_append_right _ (List.mem_append_left _ hp'))
    · intro j s' hj hne hl
      have h : j ≠ i := by rintro rfl; rw [hs] at hj; simp at hj; subst hj; exact hne hal
      rw [getD_set_other _ _ _ (fun e => h e.symm)] at hl
      rw [show setV vals i v j = vals j from by simp [setV, h]]
      exact hp.made j s' hj hne hl
    · intro j s' hj hn hl
      rw [hex]
      by_cases h : j = i
      · subst h
        rw [hs] at hj
        simp at hj
        subst hj
        simpa [setV] using hF
      · rw [getD_set_other _ _ _ (fun e => h e.symm)] at hl
        rw [show setV vals i v j = vals j from by simp [setV, h]]
        have hm := listedFacts_mem (listed := listed) (vals := vals) ss 0 j hj hn (by simpa using hl)
        simp only [Nat.zero_add] at hm
        exact hst'.views _ (hsub _ (List.mem_append_right _ (List.mem_append_right _ hm)))


theorem Pre.step1' {l : List Oper} {n : Nat} {b : List Value} {ss : List Stp} {listed : Array Bool} {vals : Nat → Value} {bs : Nat → Nat} {a : Act} {w : World} (hokS : ∀ i d ps, (ss.map fun s => (s.d, s.preds))[i]? = some (d, ps) → ∃ o, l[i]? = some o ∧ o.dst = some d ∧ (∀ T, o.op = .alloc T → o.guard = none) ∧ ∀ j ∈ ps, j ∈ directs l i) (hokN : ((ss.map fun s => (s.d, s.preds)).map (·.1)).Nodup) (hokE : ∀ i, i < l.length → ∀ j ∈ directs l i, j < i)
    (hp : Pre w0 σ φ n b ss listed vals bs a w) {i : Nat} {s : Stp} {o : Oper} (hs : ss[i]? = some s) (ho : l[i]? = some o) (hsz : i < listed.size) (hun : listed.getD i true = false) (hpr : ∀ j ∈ directs l i, listed.getD j false = true) (hob' : Obl P l w0 σ φ n b ss s o) :
    ∀ {Q : Exit → Act → World → Prop}, if Region.wanted o (yielded l.toArray a.tmps) then o.wp P a w (fun a' w' => ∃ vals' bs', Pre w0 σ φ n b ss (listed.setIfInBounds i true) vals' bs' a' w') Q ∨ (o.asks P a w ∧ LetsOut Q)
      else (∃ vals' bs', Pre w0 σ φ n b ss (listed.setIfInBounds i true) vals' bs' (a.put o.dst undef) w) := by
  obtain ⟨o', ho', hdst, hgd, hps⟩ := hokS i s.d s.preds (by rw [List.getElem?_map, hs]; rfl)
  obtain rfl : o = o' := by rw [ho] at ho'; simpa using ho'
  have hunf : listed.getD i false = false := by simpa [Array.getD, hsz] using hun
  have hdi : (ss.map (·.d))[i]? = some s.d := by rw [List.getElem?_map, hs]; rfl
  have hnd : (ss.map (·.d)).Nodup := by have := hokN; rwa [List.map_map] at this
  intro Q
  have hfr := hp.fr
  subst hfr
  unfold Obl at hob'
  cases hal : s.al with
  | some p =>
    obtain ⟨T, z⟩ := p
    rw [hal] at hob'
    rw [if_pos (by simp [Region.wanted, hgd T hob'.1])]
    refine .inl (alloc_wp hob'.1 hdst hob'.2 ⟨setV vals i (.pointer (some ⟨w.heap.size, 0, none⟩)), setN bs i w.heap.size, ?_⟩)
    have hst := (hp.st.addBox T z)
    have hperm : (σ ++ exOf (listed.setIfInBounds i true) (setN bs i w.heap.size) ss 0).Perm ((σ ++ exOf listed bs ss 0) ++ [box w.heap.size T z]) := by
      rw [List.append_assoc]
      refine List.Perm.append_left _ ?_
      have := exOf_new (listed := listed) (bs := bs) (x := w.heap.size) ss 0 i s hs hal (by simpa using hsz) (by simpa using hunf)
      simpa using this
    refine ⟨act_pends_put n b _ hnd vals i s.d hdi _, hst.perm hperm, ?_, ?_⟩
    · intro j s' hj hne hl
      by_cases h : j = i
      · subst h; simp [setV, setN]
      · rw [getD_set_other _ _ _ (fun e => h e.symm)] at hl
        have := hp.made j s' hj hne hl
        simp [setV, setN, h, this]
    · intro j s' hj hn hl
      have h : j ≠ i := by rintro rfl; rw [hs] at hj; simp at hj; subst hj; rw [hal] at hn; cases hn
      rw [getD_set_other _ _ _ (fun e => h e.symm)] at hl
      have hf := hp.fact j s' hj hn hl
      rw [show setV vals i _ j = vals j from by simp [setV, h]]
      refine VP.mono _ _ _ w _ hf (by simp) (fun k hk _ => Below.heap_alloc _ _ _ hk) ?_
      intro k hk hX
      rcases hX with ⟨r, hr, hrk⟩ | hX
      · rcases List.mem_append.1 (hperm.mem_iff.1 hr) with hr | hr
        · exact .inl ⟨r, hr, hrk⟩
        · obtain rfl := List.mem_singleton.1 hr
          simp [box] at hrk
          omega
      · exact .inr hX
  | none =>
    rw [hal] at hob'
    have hst : St w0 w (σ ++ exOf listed bs ss 0) (factsOf ss vals s.preds ++ (φ ++ listedFacts listed vals ss 0)) := by
      refine ⟨hp.st.base, hp.st.own, hp.st.fresh, hp.st.dist, fun p hpm => ?_⟩
      rcases List.mem_append.1 hpm with hpm | hpm
      · obtain ⟨j, hj, rfl⟩ := mem_factsOf hpm
        have hjl := hpr j (hps j hj)
        have hji : j < i := hokE i (List.getElem?_eq_some_iff.1 ho).1 j (hps j hj)
        have hjs : j < ss.length := by have := (List.getElem?_eq_some_iff.1 hs).1; omega
        have hg : ss[j]? = some ss[j] := List.getElem?_eq_getElem hjs
        rw [getF_get hg]
        cases hal' : (ss[j]).al with
        | none => exact hp.fact j _ hg hal' hjl
        | some q => exact trivial
      · rcases List.mem_append.1 hpm with hpm | hpm
        · exact hp.st.views p hpm
        · obtain ⟨j, s', h1, h2, h3, rfl⟩ := mem_listedFacts ss 0 hpm
          simp only [Nat.zero_add] at h3 ⊢
          exact hp.fact j s' h1 h2 h3
    refine wpList_one (fun c a w h => h) (fun h => by obtain ⟨a, w, h⟩ := h; exact h) (hob' vals (exOf listed bs ss 0) (listedFacts listed vals ss 0) w hst) ?_
    rintro a' w' ⟨v, φ'', rfl, hst', hF, hsub⟩
    refine ⟨setV vals i v, bs, ?_⟩
    have hex : exOf (listed.setIfInBounds i true) bs ss 0 = exOf listed bs ss 0 := exOf_congr ss 0 fun j s' hj hne => by
      have h : j ≠ i := by rintro rfl; rw [hs] at hj; simp at hj; subst hj; exact hne hal
      rw [Nat.zero_add, getD_set_other _ _ _ (fun e => h e.symm)]
      exact ⟨rfl, fun _ => rfl⟩
    refine ⟨act_pends_put n b _ hnd vals i s.d hdi v, ?_, ?_, ?_⟩
    · rw [hex]
      exact hst'.weaken fun p hp' => hsub p (List.mem_append_right _ (List.mem_append_left _ hp'))
    · intro j s' hj hne hl
      have h : j ≠ i := by rintro rfl; rw [hs] at hj; simp at hj; subst hj; exact hne hal
      rw [getD_set_other _ _ _ (fun e => h e.symm)] at hl
      rw [show setV vals i v j = vals j from by simp [setV, h]]
      exact hp.made j s' hj hne hl
    · intro j s' hj hn hl
      rw [hex]
      by_cases h : j = i
      · subst h
        rw [hs] at hj
        simp at hj
        subst hj
        simpa [setV] using hF
      · rw [getD_set_other _ _ _ (fun e => h e.symm)] at hl
        rw [show setV vals i v j = vals j from by simp [setV, h]]
        have hm := listedFacts_mem (listed := listed) (vals := vals) ss 0 j hj hn (by simpa using hl)
        simp only [Nat.zero_add] at hm
        exact hst'.views _ (hsub _ (List.mem_append_right _ (List.mem_append_right _ hm)))
theorem Pre.step0' {l : List Oper} {n : Nat} {b : List Value} {ss : List Stp} {listed : Array Bool} {vals : Nat → Value} {bs : Nat → Nat} {a : Act} {w : World} (hokS : ∀ i d ps, (ss.map fun s => (s.d, s.preds))[i]? = some (d, ps) → ∃ o, l[i]? = some o ∧ o.dst = some d ∧ (∀ T, o.op = .alloc T → o.guard = none) ∧ ∀ j ∈ ps, j ∈ directs l i) (hokN : ((ss.map fun s => (s.d, s.preds)).map (·.1)).Nodup) (hokE : ∀ i, i < l.length → ∀ j ∈ directs l i, j < i)
    (hob : Obls P l w0 σ φ n b ss ss l) (hp : Pre w0 σ φ n b ss listed vals bs a w) {i : Nat} {s : Stp} {o : Oper} (hs : ss[i]? = some s) (ho : l[i]? = some o) (hsz : i < listed.size) (hun : listed.getD i true = false) (hpr : ∀ j ∈ directs l i, listed.getD j false = true) :
    ∀ {Q : Exit → Act → World → Prop}, if Region.wanted o (yielded l.toArray a.tmps) then o.wp P a w (fun a' w' => ∃ vals' bs', Pre w0 σ φ n b ss (listed.setIfInBounds i true) vals' bs' a' w') Q ∨ (o.asks P a w ∧ LetsOut Q)
      else (∃ vals' bs', Pre w0 σ φ n b ss (listed.setIfInBounds i true) vals' bs' (a.put o.dst undef) w) :=
  Pre.step1' hokS hokN hokE hp hs ho hsz hun hpr (hob.get i s o hs ho)
theorem exOf_made {listed : Array Bool} {bs : Nat → Nat} : ∀ (ss : List Stp) (k : Nat), (∀ j s, ss[j]? = some s → s.al ≠ none → listed.getD (k + j) false = true) → exOf listed bs ss k = madeBy bs ss k
  | [], _, _ => rfl
  | s :: ss, k, h => by
    have ih := exOf_made (listed := listed) (bs := bs) ss (k + 1) (fun j s' hj hn => by
      have := h (j + 1) s' (by simpa using hj) hn
      rwa [show k + (j + 1) = k + 1 + j from by omega] at this)
    rw [exOf, madeBy, ih]
    cases hal : s.al with
    | none => rfl
    | some p =>
      have := h 0 s rfl (by rw [hal]; simp)
      simp only [Nat.add_zero] at this
      simp [this]
/-- The store is done, the late operation is not. -/
structure MidL (P : Program) (l : List Oper) (Q : Exit → Act → World → Prop) (np e : Nat) (o : Oper) (listed : Array Bool) (a : Act) (w : World) : Prop where
  below : ∀ i, i ≤ np → i ≠ e → listed.getD i false = true
  late : listed.getD e false = false
  above : ∀ i, np < i → listed.getD i false = false
  go : wpList P l.toArray Q (o :: l.drop (np + 1)) a w

theorem JC_late (hm : P.follows .mixedOrders = true) {id : Nat} {l : List Oper} (np n e : Nat) {b : List Value} (ss : List Stp) (hok : lateOk l np e (ss.map fun s => (s.d, s.preds)) = true) (hob : Obls P l w0 σ φ n b ss ss l)
    (hal : ∀ s, ss[e]? = some s → s.al = none) {os oe : Oper} (hos : l[np]? = some os) (hoe : l[e]? = some oe)
    (hfin : ∀ vals bs, JL P l.toArray Q w0 (σ ++ madeBy bs ss 0) (allFacts vals bs ss 0 ++ φ) (l.drop np) ⟨n, pends (ss.map (·.d)) vals 0, b⟩)
    (hfinB : ∀ vals bs w, St w0 w (σ ++ madeBy bs ss 0) φ → (∀ i s, ss[i]? = some s → s.al ≠ none → vals i = .pointer (some ⟨bs i, 0, none⟩)) →
      (∀ i s, ss[i]? = some s → i ≠ e → s.al = none → (s.F (vals i)).holds (Xof w0 (σ ++ madeBy bs ss 0) true) w) → wpList P l.toArray Q (os :: oe :: l.drop (np + 1)) (act ⟨n, pends (ss.map (·.d)) vals 0, b⟩) w) :
    JC P (.region id l.toArray true) Q w0 σ φ ⟨n, [], b⟩ := by
  intro w s
  have ok := lateOk_spec hok
  have hssl : ss.length = np := by have := ok.len; simpa using this
  refine wp_region_any hm ?_
  let Inv : Array Bool → Act → World → Prop := fun listed a w =>
    listed.size = l.length ∧ Down l listed ∧
      (((∀ i, np ≤ i → listed.getD i false = false) ∧ ∃ vals bs, Pre w0 σ φ n b ss listed vals bs a w) ∨ MidL P l Q np e oe listed a w ∨ ∃ k, np ≤ k ∧ Tail P l Q k listed a w)
  -- when all of the prefix is listed, the tail begins
  have toTail : ∀ listed a w, listed.size = l.length → (∀ i, np ≤ i → listed.getD i false = false) → (∀ i, i < np → listed.getD i false = true) → (∃ vals bs, Pre w0 σ φ n b ss listed vals bs a w) → Tail P l Q np listed a w := by
    rintro listed a w hs h1 h2 ⟨vals, bs, hp⟩
    refine ⟨h2, h1, ?_⟩
    have hfr := hp.fr
    subst hfr
    have hex : exOf listed bs ss 0 = madeBy bs ss 0 := exOf_all ss 0 fun j hj => by rw [Nat.zero_add]; exact h2 j (by omega)
    have hst := hp.st
    have hfact := hp.fact
    rw [hex] at hst hfact
    refine hfin vals bs w ⟨hst.base, hst.own, hst.fresh, hst.dist, fun p hpm => ?_⟩
    rcases List.mem_append.1 hpm with hpm | hpm
    · obtain ⟨j, s', h3, h4⟩ := mem_allFacts ss 0 hpm
      rw [Nat.zero_add] at h4
      have hj : j < np := by have := (List.getElem?_eq_some_iff.1 h3).1; omega
      rcases h4 with ⟨hn, rfl⟩ | ⟨hn, rfl⟩
      · exact hfact j s' h3 hn (h2 j hj)
      · exact hp.made j s' h3 hn (h2 j hj)
    · exact hst.views p hpm
  -- when all but the late operation is listed, the store may come
  have toMid : ∀ listed a w, listed.size = l.length → (∀ i, i < np → i ≠ e → listed.getD i false = true) → (∃ vals bs, Pre w0 σ φ n b ss listed vals bs a w) → wpList P l.toArray Q (os :: oe :: l.drop (np + 1)) a w := by
    rintro listed a w hs h2 ⟨vals, bs, hp⟩
    have hfr := hp.fr
    subst hfr
    have hex : exOf listed bs ss 0 = madeBy bs ss 0 := exOf_made ss 0 fun j s' hj hn => by
      rw [Nat.zero_add]
      refine h2 j (by have := (List.getElem?_eq_some_iff.1 hj).1; omega) ?_
      rintro rfl
      exact hn (hal _ hj)
    have hst := hp.st
    have hfact := hp.fact
    rw [hex] at hst hfact
    refine hfinB vals bs w hst (fun i s' hi hn => hp.made i s' hi hn (h2 i (by have := (List.getElem?_eq_some_iff.1 hi).1; omega) (by rintro rfl; exact hn (hal _ hi)))) (fun i s' hi hne hn => hfact i s' hi hn (h2 i (by have := (List.getElem?_eq_some_iff.1 hi).1; omega) hne))
  -- an index that is ready: all that comes before it in the order is listed
  have tailPre : ∀ (listed : Array Bool), Down l listed → ∀ i, i ∈ Region.ready .any l.toArray listed → (∀ j ∈ directs l i, listed.getD j false = true) ∧ (np < i → ∀ j, j < i → listed.getD j false = true) ∧ (i = np → ∀ j, j < np → j ≠ e → listed.getD j false = true) := by
    intro listed hd i hi
    obtain ⟨h1, h2, o, ho, h3⟩ := mem_ready hi
    have hdir : ∀ j ∈ directs l i, listed.getD j false = true := by
      intro j hj
      obtain ⟨o', e', ho', he, hb, rfl⟩ := directs_inv hj
      have : o = o' := by
        have h4 : l[i]? = some o := by simpa using ho
        rw [h4] at ho'; simpa using ho'
      subst this
      exact h3 e' he hb
    exact ⟨hdir, fun hnp j hj => reach_listed hd i i hdir j (ok.tail i hnp (by simpa using h1) j hj), fun hi' j hj hne => by subst hi'; exact reach_listed hd i i hdir j (ok.late j hj hne)⟩
  have down_set : ∀ (listed : Array Bool) (i : Nat), listed.size = l.length → i < l.length → Down l listed → (∀ j ∈ directs l i, listed.getD j false = true) → Down l (listed.setIfInBounds i true) := by
    intro listed i hs hi hd hdir j hj k hk
    by_cases h : i = k
    · subst h; exact getD_set_same _ _ (by omega) _
    · rw [getD_set_other _ _ _ h]
      by_cases h' : i = j
      · subst h'; exact hdir k hk
      · rw [getD_set_other _ _ _ h'] at hj
        exact hd j hj k hk
  have hlt := ok.lt
  have helt := ok.elt
  refine wpAny_inv Inv ?_ ?_ _ _ _ _ (by simp) (by simp [unl, List.countP_replicate]) ?_
  · rintro listed a w i ⟨hs, hd, hI⟩ hi
    obtain ⟨h1, h2, o, ho, h3⟩ := mem_ready hi
    have ho' : l[i]? = some o := by simpa using ho
    have hil : i < l.length := by simpa using h1
    have h4 : listed.getD i false = false := by simpa [Array.getD, h1, hs, hil] using h2
    obtain ⟨hdir, htl, hnp⟩ := tailPre listed hd i hi
    have hds := down_set listed i hs hil hd hdir
    -- an operation of a list of what is to come
    have run : ∀ (rest' : List Oper), wpList P l.toArray Q (o :: rest') a w → (∀ a' w', wpList P l.toArray Q rest' a' w' → Inv (listed.setIfInBounds i true) a' w') → wpOp P l.toArray Q i (fun a' w' => Inv (listed.setIfInBounds i true) a' w') a w := by
      intro rest' hgo hnext
      unfold wpOp
      rw [ho]
      simp only
      unfold wpList at hgo
      split at hgo
      · rename_i hw
        rw [if_pos hw]
        exact hgo.imp (Oper.wp_mono hnext) (fun h => h)
      · rename_i hw
        rw [if_neg hw]
        exact hnext _ _ hgo
    have tailStep : ∀ k, np ≤ k → k = i → Tail P l Q k listed a w → wpOp P l.toArray Q i (fun a' w' => Inv (listed.setIfInBounds i true) a' w') a w := by
      rintro k hk rfl hT
      have hgo := hT.go
      rw [List.drop_eq_getElem_cons hil] at hgo
      have hget : l[k] = o := by rw [List.getElem?_eq_getElem hil] at ho'; simpa using ho'
      rw [hget] at hgo
      refine run _ hgo fun a' w' h => ⟨by simpa using hs, hds, .inr (.inr ⟨k + 1, by omega, ⟨?_, ?_, h⟩⟩)⟩
      · intro j hj
        by_cases e : k = j
        · subst e; exact getD_set_same _ _ (by omega) _
        · rw [getD_set_other _ _ _ e]; exact hT.below j (by omega)
      · intro j hj
        rw [getD_set_other _ _ _ (by omega)]
        exact hT.above j (by omega)
    rcases hI with ⟨hA, vals, bs, hP⟩ | hM | ⟨k, hk, hT⟩
    · rcases Nat.lt_or_ge i np with hlt' | hge
      · have hss : ss[i]? = some (ss[i]'(by omega)) := List.getElem?_eq_getElem (by omega)
        have hstep := Pre.step0 ok hob hP hss ho' (by omega) h2 hdir (Q := Q)
        have hmono : ∀ a' w', (∃ vals' bs', Pre w0 σ φ n b ss (listed.setIfInBounds i true) vals' bs' a' w') → Inv (listed.setIfInBounds i true) a' w' := fun a' w' hex =>
          ⟨by simpa using hs, hds, .inl ⟨fun j hj => by rw [getD_set_other _ _ _ (by omega)]; exact hA j hj, hex⟩⟩
        unfold wpOp
        rw [ho]
        simp only
        split at hstep
        · rename_i hw
          rw [if_pos hw]
          exact hstep.imp (Oper.wp_mono hmono) (fun h => h)
        · rename_i hw
          rw [if_neg hw]
          exact hmono _ _ hstep
      · have hin : i = np := by
          rcases Nat.lt_or_ge np i with h | h
          · have := htl h np h
            rw [hA np (Nat.le_refl _)] at this
            cases this
          · omega
        have hall := hnp hin
        cases hle : listed.getD e false with
        | true =>
          refine tailStep np (Nat.le_refl _) hin.symm (toTail listed a w hs hA (fun j hj => ?_) ⟨vals, bs, hP⟩)
          by_cases h : j = e
          · subst h; exact hle
          · exact hall j hj h
        | false =>
          have hgo := toMid listed a w hs hall ⟨vals, bs, hP⟩
          subst hin
          obtain rfl : o = os := by rw [ho'] at hos; simpa using hos
          refine run _ hgo fun a' w' h => ⟨by simpa using hs, hds, .inr (.inl ⟨?_, ?_, ?_, h⟩)⟩
          · intro j hj hne
            by_cases e' : i = j
            · subst e'; exact getD_set_same _ _ (by omega) _
            · rw [getD_set_other _ _ _ e']; exact hall j (by omega) hne
          · rw [getD_set_other _ _ _ (by omega)]; exact hle
          · intro j hj
            rw [getD_set_other _ _ _ (by omega)]
            exact hA j (by omega)
    · have hie : i = e := by
        rcases Nat.lt_or_ge np i with h | h
        · have := htl h e (by omega)
          rw [hM.late] at this
          cases this
        · by_cases he : i = e
          · exact he
          · have := hM.below i h he
            rw [this] at h4
            cases h4
      subst hie
      obtain rfl : o = oe := by rw [ho'] at hoe; simpa using hoe
      refine run _ hM.go fun a' w' h => ⟨by simpa using hs, hds, .inr (.inr ⟨np + 1, by omega, ⟨?_, ?_, h⟩⟩)⟩
      · intro j hj
        by_cases e' : i = j
        · subst e'; exact getD_set_same _ _ (by omega) _
        · rw [getD_set_other _ _ _ e']; exact hM.below j (by omega) (fun h => e' h.symm)
      · intro j hj
        rw [getD_set_other _ _ _ (by omega)]
        exact hM.above j (by omega)
    · refine tailStep k hk ?_ hT
      have h5 : k ≤ i := by
        rcases Nat.lt_or_ge i k with h | h
        · have := hT.below i h; rw [this] at h4; cases h4
        · exact h
      rcases Nat.lt_or_ge k i with h | h
      · have := htl (by omega) k h
        rw [hT.above k (Nat.le_refl _)] at this
        cases this
      · omega
  · rintro listed a w ⟨hs, hd, hI⟩ hr
    -- nothing is ready: all is listed
    have hall : ∀ i, i < l.length → listed.getD i false = true := by
      intro i
      induction i using Nat.strongRecOn with
      | _ i ih =>
        intro hi
        cases hl : listed.getD i false with
        | true => rfl
        | false =>
          exfalso
          have : i ∈ Region.ready .any l.toArray listed := by
            refine ready_of (o := l[i]) (by simp [hi]) (by simpa [Array.getD, hs, hi] using hl) ?_
            intro e he hb
            have hdir := directs_spec (l := l) (i := i) (List.getElem?_eq_getElem hi) he hb
            have := ok.early i hi _ hdir
            exact ih e.on this (by omega)
          rw [hr] at this
          cases this
    rcases hI with ⟨hA, _⟩ | hM | ⟨k, hk, hT⟩
    · have := hall np hlt
      rw [hA np (Nat.le_refl _)] at this
      cases this
    · have := hall e (by omega)
      rw [hM.late] at this
      cases this
    · have hkl : l.length ≤ k := by
        rcases Nat.lt_or_ge k l.length with h | h
        · have := hall k h
          rw [hT.above k (Nat.le_refl _)] at this
          cases this
        · exact h
      have hgo := hT.go
      rw [List.drop_eq_nil_of_le hkl] at hgo
      exact hgo
  · have hrep' : ∀ i, (Array.replicate l.toArray.size false).getD i false = false := fun i => by simp [Array.getD]
    refine ⟨by simp, fun i hi => (by rw [hrep' i] at hi; cases hi), .inl ⟨fun i _ => hrep' i, fun i => lookL b ((ss.map (·.d)).getD i 0), fun _ => 0, ?_⟩⟩
    refine ⟨(act_pends_start n b _).symm, ?_, fun i _ _ _ h => (by rw [hrep' i] at h; cases h), fun i _ _ _ h => (by rw [hrep' i] at h; cases h)⟩
    have hex : exOf (Array.replicate l.toArray.size false) (fun _ => 0) ss 0 = [] := by
      have : ∀ (ts : List Stp) (k : Nat), exOf (Array.replicate l.toArray.size false) (fun _ => 0) ts k = [] := by
        intro ts
        induction ts with
        | nil => intro k; rfl
        | cons t ts ih =>
          intro k
          rw [exOf, ih]
          cases t.al with
          | none => rfl
          | some q => simp only; rw [hrep' k]; rfl
      exact this ss 0
    rw [hex, List.append_nil]
    exact s.ext ((Below.refl _ _).drew)

/-- The facts of the prefix, where walks use them. -/
theorem finS {ts : List Sp} {vals : Nat → Value} {bs : Nat → Nat} {n : Nat} {b : List Value} {L : List Oper} {w : World} (st : St w0 w (σ ++ madeBy bs (ts.map Sp.toStp) 0) φ)
    (ha : ∀ (j : Nat) (s : Sp), ts[j]? = some s → s.al ≠ none → vals j = .pointer (some ⟨bs j, 0, none⟩)) (hf : ∀ (j : Nat) (s : Sp), ts[j]? = some s → s.al = none → (s.F (vals j)).holds (Xof w0 (σ ++ madeBy bs (ts.map Sp.toStp) 0) true) w)
    (h : JL P ops Q w0 (σ ++ madeS bs ts 0) (allPosts vals ts 0 ++ φ) L ⟨n, pendsF vals bs ts 0, b⟩) : wpList P ops Q L (act ⟨n, pends ((ts.map Sp.toStp).map (·.d)) vals 0, b⟩) w := by
  have hv : ∀ (j : Nat) (s : Sp) (V : Value), ts[j]? = some s → s.al = none → s.pv = some V → vals j = V := by
    intro j s V hj hal hpv
    have := hf j s hj hal
    simp only [Sp.F, hpv] at this
    exact this
  have hpf : pendsF vals bs ts 0 = pends ((ts.map Sp.toStp).map (·.d)) vals 0 := pendsF_eq ts 0 (fun j s V hj hal hpv => by rw [Nat.zero_add]; exact hv j s V hj hal hpv) (fun j s q hj hal => by rw [Nat.zero_add]; exact ha j s hj (by rw [hal]; simp))
  have hpost : ∀ p ∈ allPosts vals ts 0, p.2.holds (Xof w0 (σ ++ madeBy bs (ts.map Sp.toStp) 0) p.1) w := by
    have : ∀ (us : List Sp) (k : Nat), (∀ (j : Nat) (s : Sp), us[j]? = some s → ts[k + j]? = some s) → ∀ p ∈ allPosts vals us k, p.2.holds (Xof w0 (σ ++ madeBy bs (ts.map Sp.toStp) 0) p.1) w := by
      intro us
      induction us with
      | nil => intro k _ p h; cases h
      | cons t us ih =>
        intro k hts p h
        have ih' := ih (k + 1) (fun j s hj => by rw [show k + 1 + j = k + (j + 1) from by omega]; exact hts (j + 1) s (by simpa using hj)) p
        rw [allPosts] at h
        have ht := hts 0 t rfl
        simp only [Nat.add_zero] at ht
        cases hal : t.al with
        | some q => rw [hal] at h; exact ih' h
        | none =>
          rw [hal] at h
          simp only at h
          cases hpv : t.pv with
          | some V => rw [hpv] at h; exact ih' h
          | none =>
            rw [hpv] at h
            rcases List.mem_cons.1 h with rfl | h
            · have := hf k t ht hal
              simp only [Sp.F, hpv] at this
              exact this
            · exact ih' h
    exact this ts 0 (fun j s hj => by rw [Nat.zero_add]; exact hj)
  have := h w
  rw [hpf, madeS_eq] at this
  refine this ⟨st.base, st.own, st.fresh, st.dist, fun p hp => ?_⟩
  rcases List.mem_append.1 hp with hp | hp
  · exact hpost p hp
  · exact st.views p hp
/-- The operation e of the prefix is not yet done: nothing is known of its value. -/
def lateB : List Sp → Nat → List Sp
  | [], _ => []
  | s :: l, 0 => ⟨s.d, s.preds, none, fun _ _ => True, s.al⟩ :: l
  | s :: l, e + 1 => s :: lateB l e
theorem lateB_d : ∀ (ss : List Sp) (e : Nat), ((lateB ss e).map Sp.toStp).map (·.d) = (ss.map Sp.toStp).map (·.d)
  | [], _ => rfl
  | _ :: _, 0 => rfl
  | s :: l, e + 1 => by rw [lateB, List.map_cons, List.map_cons, lateB_d l e]; rfl
theorem lateB_made (bs : Nat → Nat) : ∀ (ss : List Sp) (e k : Nat), madeBy bs ((lateB ss e).map Sp.toStp) k = madeBy bs (ss.map Sp.toStp) k
  | [], _, _ => rfl
  | _ :: _, 0, _ => rfl
  | s :: l, e + 1, k => by
    rw [lateB, List.map_cons, List.map_cons, madeBy, madeBy, lateB_made bs l e (k + 1)]
theorem lateB_get : ∀ (ss : List Sp) (e j : Nat) (s : Sp), (lateB ss e)[j]? = some s → (j ≠ e ∧ ss[j]? = some s) ∨ (j = e ∧ s.pv = none ∧ s.post = (fun _ _ => True) ∧ ∃ s', ss[j]? = some s' ∧ s'.al = s.al)
  | [], _, _, _, h => by simp [lateB] at h
  | t :: l, 0, 0, s, h => by
    simp only [lateB, List.getElem?_cons_zero, Option.some.injEq] at h
    subst h
    exact .inr ⟨rfl, rfl, rfl, t, rfl, rfl⟩
  | t :: l, 0, j + 1, s, h => by
    simp only [lateB, List.getElem?_cons_succ] at h
    exact .inl ⟨by omega, by simpa using h⟩
  | t :: l, e + 1, 0, s, h => by
    simp only [lateB, List.getElem?_cons_zero, Option.some.injEq] at h
    subst h
    exact .inl ⟨by omega, rfl⟩
  | t :: l, e + 1, j + 1, s, h => by
    simp only [lateB, List.getElem?_cons_succ] at h
    rcases lateB_get l e j s h with ⟨h1, h2⟩ | ⟨h1, h2, h3, s', h4, h5⟩
    · exact .inl ⟨by omega, by simpa using h2⟩
    · exact .inr ⟨by omega, h2, h3, s', by simpa using h4, h5⟩
theorem JC_drawLate {n : Nat} {b : List Value} (hm : P.follows .mixedOrders = true) {id : Nat} {l : List Oper} (np e : Nat) (ss : List Sp) (hob : OblsS P l w0 σ φ n b ss ss l) (hok : lateOk l np e (ss.map fun s => (s.d, s.preds)) = true)
    (hal : (ss[e]?).bind (·.al) = none) {os oe : Oper} (hos : l[np]? = some os) (hoe : l[e]? = some oe)
    (hfin : ∀ vals bs, JL P l.toArray Q w0 (σ ++ madeS bs ss 0) (allPosts vals ss 0 ++ φ) (l.drop np) ⟨n, pendsF vals bs ss 0, b⟩)
    (hfinB : ∀ vals bs, JL P l.toArray Q w0 (σ ++ madeS bs (lateB ss e) 0) (allPosts vals (lateB ss e) 0 ++ φ) (os :: oe :: l.drop (np + 1)) ⟨n, pendsF vals bs (lateB ss e) 0, b⟩) :
    JC P (.region id l.toArray true) Q w0 σ φ ⟨n, [], b⟩ := by
  have hds : (ss.map Sp.toStp).map (fun s => (s.d, s.preds)) = ss.map fun s => (s.d, s.preds) := by rw [List.map_map]; rfl
  have toStp_get : ∀ (ts : List Sp) (j : Nat) (s : Sp), ts[j]? = some s → (ts.map Sp.toStp)[j]? = some s.toStp := fun ts j s h => by rw [List.getElem?_map, h]; rfl
  refine JC_late hm np n e (ss.map Sp.toStp) (by rw [hds]; exact hok) ?_ ?_ hos hoe ?_ ?_
  · have : ∀ (ts : List Sp) (os : List Oper), OblsS P l w0 σ φ n b ss ts os → Obls P l w0 σ φ n b (ss.map Sp.toStp) (ts.map Sp.toStp) os := by
      intro ts
      induction ts with
      | nil => intro os _; trivial
      | cons t ts ih =>
        intro os h
        cases os with
        | nil => exact h.elim
        | cons o os => exact ⟨OblS.obl h.1, ih os h.2⟩
    exact this ss l hob
  · intro s h
    rw [List.getElem?_map] at h
    cases hs : ss[e]? with
    | none => rw [hs] at h; cases h
    | some t =>
      rw [hs] at h hal
      simp only [Option.map_some, Option.some.injEq] at h
      subst h
      exact hal
  · intro vals bs w st
    have hmem : ∀ (ts : List Sp) (k j : Nat) (s : Sp), ts[j]? = some s → (match s.al with | some _ => (true, vPure (vals (k + j) = Value.pointer (some ⟨bs (k + j), 0, none⟩))) | none => (true, s.F (vals (k + j))) : Bool × VP) ∈ allFacts vals bs (ts.map Sp.toStp) k := by
      intro ts
      induction ts with
      | nil => intro k j s h; simp at h
      | cons t ts ih =>
        intro k j s h
        rw [List.map_cons, allFacts]
        show _ ∈ (match t.al with | some _ => _ | none => _)
        cases j with
        | zero =>
          simp at h
          subst h
          simp only [Nat.add_zero]
          cases t.al with
          | some q => exact List.mem_cons_self
          | none => exact List.mem_cons_self
        | succ j =>
          have := ih (k + 1) j s (by simpa using h)
          rw [show k + 1 + j = k + (j + 1) from by omega] at this
          cases t.al with
          | some q => exact List.mem_cons_of_mem _ this
          | none => exact List.mem_cons_of_mem _ this
    refine finS (ts := ss) ⟨st.base, st.own, st.fresh, st.dist, fun p hp => st.views p (List.mem_append_right _ hp)⟩ ?_ ?_ (hfin vals bs)
    · intro j s hj hn
      have h1 := hmem ss 0 j s hj
      cases hal' : s.al with
      | none => exact absurd hal' hn
      | some q =>
        rw [hal'] at h1
        have := st.views _ (List.mem_append_left _ h1)
        simp only [Nat.zero_add] at this
        exact this
    · intro j s hj hn
      have h1 := hmem ss 0 j s hj
      rw [hn] at h1
      have := st.views _ (List.mem_append_left _ h1)
      simpa only [Nat.zero_add] using this
  · intro vals bs w st ha hf
    have := hfinB vals bs
    rw [← lateB_d ss e]
    have hmd := lateB_made bs ss e 0
    refine finS (ts := lateB ss e) (by rw [hmd]; exact st) ?_ ?_ this
    · intro j s hj hn
      rcases lateB_get ss e j s hj with ⟨_, h⟩ | ⟨_, _, _, s', h, h'⟩
      · exact ha j _ (toStp_get ss j s h) hn
      · exact ha j _ (toStp_get ss j s' h) (by show s'.al ≠ none; rw [h']; exact hn)
    · intro j s hj hn
      rw [hmd]
      rcases lateB_get ss e j s hj with ⟨hne, h⟩ | ⟨_, h1, h2, _⟩
      · exact hf j _ (toStp_get ss j s h) hne hn
      · have : s.F = vPost (fun _ _ => True) := by unfold Sp.F; rw [h1, h2]
        rw [this]
        exact ⟨[], trivial, fun p hp => by cases hp⟩

/-! ## Several late operations: behind the store each order is walked -/
def lateBs (ss : List Sp) : List Nat → List Sp
  | [] => ss
  | e :: es => lateB (lateBs ss es) e
theorem lateBs_d (ss : List Sp) : ∀ es, ((lateBs ss es).map Sp.toStp).map (·.d) = (ss.map Sp.toStp).map (·.d)
  | [] => rfl
  | e :: es => by rw [lateBs, lateB_d, lateBs_d ss es]
theorem lateBs_made (bs : Nat → Nat) (ss : List Sp) (k : Nat) : ∀ es, madeBy bs ((lateBs ss es).map Sp.toStp) k = madeBy bs (ss.map Sp.toStp) k
  | [] => rfl
  | e :: es => by rw [lateBs, lateB_made, lateBs_made bs ss k es]
theorem lateBs_get (ss : List Sp) : ∀ (es : List Nat) (j : Nat) (s : Sp), (lateBs ss es)[j]? = some s → (j ∉ es ∧ ss[j]? = some s) ∨ (j ∈ es ∧ s.pv = none ∧ s.post = (fun _ _ => True) ∧ ∃ s', ss[j]? = some s' ∧ s'.al = s.al)
  | [], j, s, h => .inl ⟨by simp, h⟩
  | e :: es, j, s, h => by
    rw [lateBs] at h
    rcases lateB_get _ e j s h with ⟨h1, h2⟩ | ⟨h1, h2, h3, s', h4, h5⟩
    · rcases lateBs_get ss es j s h2 with ⟨a1, a2⟩ | ⟨a1, a2, a3, a4⟩
      · exact .inl ⟨by simp [h1, a1], a2⟩
      · exact .inr ⟨by simp [a1], a2, a3, a4⟩
    · rcases lateBs_get ss es j s' h4 with ⟨a1, a2⟩ | ⟨a1, a2, a3, s'', a4, a5⟩
      · exact .inr ⟨by simp [h1], h2, h3, s', a2, h5⟩
      · exact .inr ⟨by simp [h1], h2, h3, s'', a4, a5.trans h5⟩
def listedOf (N np : Nat) (miss : List Nat) : Array Bool := ((List.range N).map fun i => i ≤ np && !miss.contains i).toArray
def subl : List Nat → List (List Nat)
  | [] => [[]]
  | a :: l => (subl l).map (a :: ·) ++ subl l
theorem mem_subl (p : Nat → Bool) : ∀ l : List Nat, l.filter p ∈ subl l
  | [] => by simp [subl]
  | a :: l => by
    have ih := mem_subl p l
    rw [List.filter_cons, subl]
    cases p a with
    | true => exact List.mem_append_left _ (List.mem_map.2 ⟨_, ih, rfl⟩)
    | false => exact List.mem_append_right _ ih
def closedM (l : List Oper) (late m : List Nat) : Bool := late.all fun j => m.contains j || (directs l j).all fun i => !m.contains i
def lateOkX (l : List Oper) (n : Nat) (late : List Nat) (subs : List (List Nat × Nat)) (ds : List (Nat × List Nat)) : Bool :=
  ds.length == n && decide (n < l.length) &&
  (late.all fun e => decide (e < n)) &&
  ((List.range l.length).all fun i => (directs l i).all fun j => j < i) &&
  ((List.range n).all fun i => match ds[i]? with | some (d, ps) => stepOk l i d ps | none => false) &&
  ((ds.map (·.1)).Nodup : Bool) &&
  ((List.range n).all fun i => late.contains i || (reach l n n).contains i) &&
  ((List.range l.length).all fun t => t ≤ n || (reach l t t).contains n) &&
  ((subl late).all fun m => !closedM l late m || subs.any fun p => p.1 == m) &&
  (subs.all fun p => unl (listedOf l.length n p.1) == p.2)
theorem wpAny_inv2 {P : Program} {md : Region.Mode} {ops : Array Oper} {Q : Exit → Act → World → Prop} (Inv : Array Bool → Act → World → Prop)
    (hstep : ∀ listed a w i, Inv listed a w → i ∈ Region.ready md ops listed → ∀ fuel, unl (listed.setIfInBounds i true) ≤ fuel → wpOp P ops Q i (fun a' w' => Inv (listed.setIfInBounds i true) a' w' ∨ wpAny P md ops Q fuel (listed.setIfInBounds i true) a' w') a w)
    (hend : ∀ listed a w, Inv listed a w → Region.ready md ops listed = [] → Q .normal a w) :
    ∀ (fuel : Nat) (listed : Array Bool) (a : Act) (w : World), listed.size = ops.size → unl listed ≤ fuel → Inv listed a w → wpAny P md ops Q fuel listed a w := by
  intro fuel
  induction fuel with
  | zero =>
    intro listed a w hs hu hI
    have hr : Region.ready md ops listed = [] := by
      cases hr : Region.ready md ops listed with
      | nil => rfl
      | cons i l =>
        have hm := mem_ready (md := md) (ops := ops) (listed := listed) (i := i) (by rw [hr]; exact List.mem_cons_self)
        have := unl_set hm.2.1
        omega
    exact ⟨hr, hend listed a w hI hr⟩
  | succ fuel ih =>
    intro listed a w hs hu hI
    refine ⟨fun hr => hend listed a w hI hr, fun i hi => ?_⟩
    have hm := mem_ready hi
    have hun := unl_set hm.2.1
    exact wpOp_mono (fun a' w' hI' => hI'.elim (ih _ a' w' (by simpa using hs) (by omega)) id) (hstep listed a w i hI hi fuel (by omega))
def AllX (P : Program) (l : List Oper) (Q : Exit → Act → World → Prop) (w0 : Ctx) (σ : List Res) (φ : List (Bool × VP)) (n np : Nat) (b : List Value) (ss : List Sp) (os : Oper) : List (List Nat × Nat) → Prop
  | [] => True
  | (m, rem) :: subs => (∀ vals bs r, JL P l.toArray (NextA P l Q (r + rem) (listedOf l.length np m)) w0 (σ ++ madeS bs (lateBs ss m) 0) (allPosts vals (lateBs ss m) 0 ++ φ) [os] ⟨n, pendsF vals bs (lateBs ss m) 0, b⟩) ∧ AllX P l Q w0 σ φ n np b ss os subs
theorem AllX.mem {l : List Oper} {n np : Nat} {b : List Value} {ss : List Sp} {os : Oper} {m : List Nat} {rem : Nat} : ∀ {subs : List (List Nat × Nat)}, AllX P l Q w0 σ φ n np b ss os subs → (m, rem) ∈ subs →
    ∀ vals bs r, JL P l.toArray (NextA P l Q (r + rem) (listedOf l.length np m)) w0 (σ ++ madeS bs (lateBs ss m) 0) (allPosts vals (lateBs ss m) 0 ++ φ) [os] ⟨n, pendsF vals bs (lateBs ss m) 0, b⟩
  | [], _, h => by cases h
  | (m', rem') :: subs, ha, h => by
    rcases List.mem_cons.1 h with h | h
    · cases h; exact ha.1
    · exact AllX.mem ha.2 h
theorem JC_drawX {n : Nat} {b : List Value} (hm : P.follows .mixedOrders = true) {id : Nat} {l : List Oper} (np : Nat) (late : List Nat) (subs : List (List Nat × Nat)) (ss : List Sp) (hob : OblsS P l w0 σ φ n b ss ss l) (hok : lateOkX l np late subs (ss.map fun s => (s.d, s.preds)) = true)
    (hal : (late.all fun e => ((ss[e]?).bind (·.al)).isNone) = true) {os : Oper} (hos : l[np]? = some os) (hfin : AllX P l Q w0 σ φ n np b ss os subs) :
    JC P (.region id l.toArray true) Q w0 σ φ ⟨n, [], b⟩ := by
  intro w s
  have hds : (ss.map Sp.toStp).map (fun s => (s.d, s.preds)) = ss.map fun s => (s.d, s.preds) := by rw [List.map_map]; rfl
  have toStp_get : ∀ (ts : List Sp) (j : Nat) (s : Sp), ts[j]? = some s → (ts.map Sp.toStp)[j]? = some s.toStp := fun ts j s h => by rw [List.getElem?_map, h]; rfl
  rw [← hds] at hok
  generalize hss' : ss.map Sp.toStp = ss' at hok
  unfold lateOkX at hok
  simp only [Bool.and_eq_true, decide_eq_true_eq, beq_iff_eq, List.all_eq_true, List.mem_range, Bool.or_eq_true] at hok
  obtain ⟨⟨⟨⟨⟨⟨⟨⟨⟨h1, h2⟩, hlt⟩, h3⟩, h4⟩, h5⟩, h7⟩, h6⟩, h8⟩, h9⟩ := hok
  have hssl : ss'.length = np := by simpa using h1
  have hstepOk : ∀ i d ps, (ss'.map fun s => (s.d, s.preds))[i]? = some (d, ps) → ∃ o, l[i]? = some o ∧ o.dst = some d ∧ (∀ T, o.op = .alloc T → o.guard = none) ∧ ∀ j ∈ ps, j ∈ directs l i := by
    intro i d ps hi
    have hilt : i < np := by rw [← h1]; exact (List.getElem?_eq_some_iff.1 hi).1
    have := h4 i hilt
    rw [hi] at this
    unfold stepOk at this
    simp only at this
    split at this
    · rename_i o ho
      simp only [Bool.and_eq_true, beq_iff_eq, List.all_eq_true] at this
      refine ⟨o, ho, this.1.1, fun T hT => ?_, fun j hj => ?_⟩
      · have h := this.1.2
        simpa [isAlloc, hT] using h
      have := this.2 j hj
      simpa using this
    · cases this
  have hob' : Obls P l w0 σ φ n b ss' ss' l := by
    have : ∀ (ts : List Sp) (os : List Oper), OblsS P l w0 σ φ n b ss ts os → Obls P l w0 σ φ n b (ss.map Sp.toStp) (ts.map Sp.toStp) os := by
      intro ts
      induction ts with
      | nil => intro os _; trivial
      | cons t ts ih =>
        intro os h
        cases os with
        | nil => exact h.elim
        | cons o os => exact ⟨OblS.obl h.1, ih os h.2⟩
    rw [← hss']
    exact this ss l hob
  have hal' : ∀ e ∈ late, ∀ s, ss'[e]? = some s → s.al = none := by
    intro e he s hs
    have := List.all_eq_true.1 hal e he
    rw [← hss', List.getElem?_map] at hs
    cases hse : ss[e]? with
    | none => rw [hse] at hs; cases hs
    | some t =>
      rw [hse] at hs this
      simp only [Option.map_some, Option.some.injEq] at hs
      subst hs
      show t.al = none
      simpa using this
  refine wp_region_any hm ?_
  let Inv : Array Bool → Act → World → Prop := fun listed a w => listed.size = l.length ∧ Down l listed ∧ (∀ i, np ≤ i → listed.getD i false = false) ∧ ∃ vals bs, Pre w0 σ φ n b ss' listed vals bs a w
  have hready : ∀ (listed : Array Bool), Down l listed → ∀ i, i ∈ Region.ready .any l.toArray listed → ∀ j ∈ directs l i, listed.getD j false = true := by
    intro listed hd i hi j hj
    obtain ⟨h1, h2, o, ho, h3⟩ := mem_ready hi
    obtain ⟨o', e', ho', he, hb, rfl⟩ := directs_inv hj
    have : o = o' := by
      have h4 : l[i]? = some o := by simpa using ho
      rw [h4] at ho'; simpa using ho'
    subst this
    exact h3 e' he hb
  have down_set : ∀ (listed : Array Bool) (i : Nat), listed.size = l.length → i < l.length → Down l listed → (∀ j ∈ directs l i, listed.getD j false = true) → Down l (listed.setIfInBounds i true) := by
    intro listed i hs hi hd hdir j hj k hk
    by_cases h : i = k
    · subst h; exact getD_set_same _ _ (by omega) _
    · rw [getD_set_other _ _ _ h]
      by_cases h' : i = j
      · subst h'; exact hdir k hk
      · rw [getD_set_other _ _ _ h'] at hj
        exact hd j hj k hk
  refine wpAny_inv2 Inv ?_ ?_ _ _ _ _ (by simp) (by simp [unl, List.countP_replicate]) ?_
  · rintro listed a w i ⟨hs, hd, hA, vals, bs, hP⟩ hi fuel hfuel
    obtain ⟨a1, a2, o, ho, _⟩ := mem_ready hi
    have ho' : l[i]? = some o := by simpa using ho
    have hil : i < l.length := by simpa using a1
    have hdir := hready listed hd i hi
    have hds' := down_set listed i hs hil hd hdir
    rcases Nat.lt_or_ge i np with hip | hip
    · have hsi : ss'[i]? = some (ss'[i]'(by omega)) := List.getElem?_eq_getElem (by omega)
      have hstep := Pre.step0' hstepOk h5 h3 hob' hP hsi ho' (by omega) a2 hdir (Q := Q)
      have hmono : ∀ a' w', (∃ vals' bs', Pre w0 σ φ n b ss' (listed.setIfInBounds i true) vals' bs' a' w') → Inv (listed.setIfInBounds i true) a' w' ∨ wpAny P .any l.toArray Q fuel (listed.setIfInBounds i true) a' w' := fun a' w' hex =>
        .inl ⟨by simpa using hs, hds', fun j hj => by rw [getD_set_other _ _ _ (by omega)]; exact hA j hj, hex⟩
      unfold wpOp
      rw [ho]
      simp only
      split at hstep
      · rename_i hw
        rw [if_pos hw]
        exact hstep.imp (Oper.wp_mono hmono) (fun h => h)
      · rename_i hw
        rw [if_neg hw]
        exact hmono _ _ hstep
    · have hin : i = np := by
        rcases Nat.lt_or_ge np i with h | h
        · have hr := (h6 i hil).resolve_left (by omega)
          have := reach_listed hd i i hdir np (by simpa using hr)
          rw [hA np (Nat.le_refl _)] at this
          cases this
        · omega
      subst hin
      obtain rfl : o = os := by rw [ho'] at hos; simpa using hos
      -- what is missing
      have hmiss : ∀ j, j < i → listed.getD j false = false → j ∈ late := by
        intro j hj hf
        rcases h7 j hj with h | h
        · simpa using h
        · have := reach_listed hd i i hdir j (by simpa using h)
          rw [this] at hf; cases hf
      generalize hmm : late.filter (fun j => !listed.getD j false) = m
      have hmem : ∀ j, j ∈ m ↔ j ∈ late ∧ listed.getD j false = false := by
        intro j; rw [← hmm, List.mem_filter]; simp
      have hcl : closedM l late m = true := by
        unfold closedM
        rw [List.all_eq_true]
        intro j hj
        cases hc : m.contains j with
        | true => rfl
        | false =>
          simp only [Bool.false_or, List.all_eq_true]
          intro k hk
          have hjl : listed.getD j false = true := by
            cases hb : listed.getD j false with
            | true => rfl
            | false => exact absurd ((hmem j).2 ⟨hj, hb⟩) (by simpa using hc)
          have := hd j hjl k hk
          have hkm : k ∉ m := fun h => by rw [((hmem k).1 h).2] at this; cases this
          simpa using hkm
      have hsub := h8 m (by rw [← hmm]; exact mem_subl _ _)
      rw [hcl] at hsub
      obtain ⟨⟨m', rem⟩, hp, hpm⟩ : ∃ p ∈ subs, p.1 = m := by
        rcases hsub with h | h
        · cases h
        · rw [List.any_eq_true] at h
          obtain ⟨p, hp, he⟩ := h
          exact ⟨p, hp, by simpa using he⟩
      obtain rfl : m' = m := hpm
      have hlo : listed.setIfInBounds i true = listedOf l.length i m' := by
        refine Array.ext (by simp [listedOf, hs]) fun j hj1 hj2 => ?_
        have hjl : j < l.length := by simpa [hs] using hj1
        have e1 : (listed.setIfInBounds i true)[j] = (listed.setIfInBounds i true).getD j false := by rw [Array.getD, dif_pos hj1]; rfl
        rw [e1]
        have e2 : (listedOf l.length i m')[j] = (decide (j ≤ i) && !m'.contains j) := by simp [listedOf]
        rw [e2]
        by_cases hji : i = j
        · subst hji
          rw [getD_set_same _ _ (by omega)]
          have : i ∉ m' := fun h => by have := hlt i ((hmem i).1 h).1; omega
          rw [show m'.contains i = false from by simpa using this, decide_eq_true (Nat.le_refl i)]; rfl
        · rw [getD_set_other _ _ _ hji]
          rcases Nat.lt_or_ge j i with h | h
          · rw [decide_eq_true (by omega), Bool.true_and]
            cases hb : listed.getD j false with
            | true =>
              have : j ∉ m' := fun h => by rw [((hmem j).1 h).2] at hb; cases hb
              rw [show m'.contains j = false from by simpa using this]; rfl
            | false => rw [show m'.contains j = true from by simpa using (hmem j).2 ⟨hmiss j h hb, hb⟩]; rfl
          · rw [hA j h, decide_eq_false (by omega)]; rfl
      have hrem : unl (listedOf l.length i m') = rem := h9 _ hp
      obtain ⟨r, hr⟩ : ∃ r, fuel = r + rem := ⟨fuel - rem, by rw [hlo, hrem] at hfuel; omega⟩
      have hgo := AllX.mem hfin hp vals bs r
      have hfr := hP.fr
      have hex : exOf listed bs ss' 0 = madeBy bs ss' 0 := exOf_made ss' 0 fun j s' hj hn => by
        rw [Nat.zero_add]
        cases hb : listed.getD j false with
        | true => rfl
        | false => exact absurd (hal' j (hmiss j (by have := (List.getElem?_eq_some_iff.1 hj).1; omega) hb) s' hj) hn
      have hst := hP.st
      have hfact := hP.fact
      rw [hex] at hst hfact
      have hmd := lateBs_made bs ss 0 m'
      rw [hss'] at hmd
      have hrun : wpList P l.toArray (NextA P l Q (r + rem) (listedOf l.length i m')) [o] a w := by
        rw [hfr, ← hss', ← lateBs_d ss m']
        refine finS (ts := lateBs ss m') (by rw [hmd]; exact hst) ?_ ?_ hgo
        · intro j s' hj hn
          rcases lateBs_get ss m' j s' hj with ⟨hjm, h⟩ | ⟨hjm, _, _, s'', h, h'⟩
          · have hjs : ss'[j]? = some s'.toStp := by rw [← hss']; exact toStp_get ss j s' h
            refine hP.made j _ hjs hn ?_
            cases hb : listed.getD j false with
            | true => rfl
            | false => exact absurd ((hmem j).2 ⟨hmiss j (by have := (List.getElem?_eq_some_iff.1 hjs).1; omega) hb, hb⟩) hjm
          · have hjs : ss'[j]? = some s''.toStp := by rw [← hss']; exact toStp_get ss j s'' h
            have := hal' j ((hmem j).1 hjm).1 _ hjs
            exact absurd (h'.symm.trans this) hn
        · intro j s' hj hn
          rw [hmd]
          rcases lateBs_get ss m' j s' hj with ⟨hjm, h⟩ | ⟨_, h1, h2, _⟩
          · have hjs : ss'[j]? = some s'.toStp := by rw [← hss']; exact toStp_get ss j s' h
            refine hfact j _ hjs hn ?_
            cases hb : listed.getD j false with
            | true => rfl
            | false => exact absurd ((hmem j).2 ⟨hmiss j (by have := (List.getElem?_eq_some_iff.1 hjs).1; omega) hb, hb⟩) hjm
          · have : s'.F = vPost (fun _ _ => True) := by unfold Sp.F; rw [h1, h2]
            rw [this]
            exact ⟨[], trivial, fun p hp => by cases hp⟩
      unfold wpOp
      rw [ho]
      simp only
      unfold wpList at hrun
      rw [hlo, hr]
      split at hrun
      · rename_i hw
        rw [if_pos hw]
        exact hrun.imp (fun h => Oper.wp_conv (fun a w h => .inr h) (fun _ _ _ h => h) (fun h => h) h) (fun h => ⟨h.1, h.2⟩)
      · rename_i hw
        rw [if_neg hw]
        exact .inr hrun
  · rintro listed a w ⟨hs, hd, hA, _⟩ hr
    exfalso
    have hall : ∀ i, i < l.length → listed.getD i false = true := by
      intro i
      induction i using Nat.strongRecOn with
      | _ i ih =>
        intro hi
        cases hl : listed.getD i false with
        | true => rfl
        | false =>
          exfalso
          have : i ∈ Region.ready .any l.toArray listed := by
            refine ready_of (o := l[i]) (by simp [hi]) (by simpa [Array.getD, hs, hi] using hl) ?_
            intro e he hb
            have hdir := directs_spec (l := l) (i := i) (List.getElem?_eq_getElem hi) he hb
            have := h3 i hi _ hdir
            exact ih e.on this (by omega)
          rw [hr] at this
          cases this
    have := hall np h2
    rw [hA np (Nat.le_refl _)] at this
    cases this
  · have hrep' : ∀ i, (Array.replicate l.toArray.size false).getD i false = false := fun i => by simp [Array.getD]
    refine ⟨by simp, fun i hi => (by rw [hrep' i] at hi; cases hi), fun i _ => hrep' i, fun i => lookL b ((ss'.map (·.d)).getD i 0), fun _ => 0, ?_⟩
    refine ⟨(act_pends_start n b _).symm, ?_, fun i _ _ _ h => (by rw [hrep' i] at h; cases h), fun i _ _ _ h => (by rw [hrep' i] at h; cases h)⟩
    have hex : exOf (Array.replicate l.toArray.size false) (fun _ => 0) ss' 0 = [] := by
      have : ∀ (ts : List Stp) (k : Nat), exOf (Array.replicate l.toArray.size false) (fun _ => 0) ts k = [] := by
        intro ts
        induction ts with
        | nil => intro k; rfl
        | cons t ts ih =>
          intro k
          rw [exOf, ih]
          cases t.al with
          | none => rfl
          | some q => simp only; rw [hrep' k]; rfl
      exact this ss' 0
    rw [hex, List.append_nil]
    exact s.ext ((Below.refl _ _).drew)
end
end Go.Fw

/- More rules: numbers behind own numbers; parts of viewed numbers. -/
namespace Go.Fw
open Go Go.RowKit Go.Nat9

section
variable {P : Program} {Q : Exit → Act → World → Prop} {w0 : Ctx} {σ : List Res} {φ : List (Bool × VP)} {fr : Fr} {ops : Array Oper} {rest : List Oper} {d : Nat} {ty : TypeId} {pos : String} {aft : Array Edge}
theorem i64s_append (L M : List Int) : i64s L ++ i64s M = i64s (L ++ M) := by unfold i64s; rw [List.map_append]
/-- Numbers behind own numbers. -/
theorem JL_appendIV {t e : TypeId} {by' : Nat} {z : Value} {x y : Operand} {ad ad2 : Option Addr} {n cap m c : Nat} {L M : List Int} (i : Nat) (hs : slOf P t = some (e, 1, by', [z]))
    (hx : Ev fr x (.slice ad n cap)) (hy : Ev fr y (.slice ad2 m c)) (hσ : Nth σ i (osl ad n cap e 1 (i64s L))) (hr : Reads w0 σ φ ad2 (i64s M)) (hl : M.length = m)
    (h63 : n + m ≤ 9223372036854775807) (hbytes : (n + m) * by' ≤ 140737488355328)
    (k : ∀ ad' cap', n + m ≤ cap' ∧ cap' ≤ 9223372036854775807 → JL P ops Q w0 (updL σ i (osl ad' (n + m) cap' e 1 (i64s (L ++ M)))) φ rest (upd fr d (.slice ad' (n + m) cap'))) :
    JL P ops Q w0 σ φ (⟨some d, .call { callee := .builtin .append, args := #[x, y], argTypes := #[t, t] }, ty, pos, aft, none⟩ :: rest) fr := by
  refine JL_append i hs rfl (by decide) hx hy hσ (by rw [i64s_length, hl, Nat.mul_one]) hr ?_ h63 hbytes ?_
  · intro v hv
    obtain ⟨a, _, rfl⟩ := List.mem_map.1 hv
    rfl
  · intro ad' cap' hc
    rw [i64s_append]
    exact k ad' cap' hc
theorem viewSubI {f : Bool} {ad : Option Addr} {L : List Int} (h : (f, vCells ad (i64s L)) ∈ φ) (m l hh : Nat) (hm : hh ≤ m) (w : World) (s : St w0 w σ φ) : (vCells (subAd ad m l 1) (i64s ((L.take hh).drop l))).holds (Xof w0 σ f) w := by
  have := CellsAt.sub (s.views _ h) m l hh 1 hm
  rw [Nat.mul_one, Nat.mul_one, i64s_take, i64s_drop] at this
  exact this
theorem JC_viewSubI {c : Code} {f : Bool} {ad : Option Addr} {L : List Int} (m l hh : Nat) (h : (f, vCells ad (i64s L)) ∈ φ) (hm : hh ≤ m) (k : JC P c Q w0 σ ((f, vCells (subAd ad m l 1) (i64s ((L.take hh).drop l))) :: φ) fr) : JC P c Q w0 σ φ fr :=
  JC_addView (fun w s => viewSubI h m l hh hm w s) k
theorem JL_viewSubI {lo : List Oper} {f : Bool} {ad : Option Addr} {L : List Int} (m l hh : Nat) (h : (f, vCells ad (i64s L)) ∈ φ) (hm : hh ≤ m) (k : JL P ops Q w0 σ ((f, vCells (subAd ad m l 1) (i64s ((L.take hh).drop l))) :: φ) lo fr) : JL P ops Q w0 σ φ lo fr :=
  JL_addView (fun w s => viewSubI h m l hh hm w s) k
end
end Go.Fw
