/- Chapter 24: shares, what is open, what is balanced. Plain. -/
import Derived.Test.YtjdojhhngganeaaGreatDoorFwC
import Derived.Test.YtjdojhhngganeaaGreatDoorDgG
namespace Go.Fw
open Go Go.RowKit Go.Nat9

theorem cntN_in (n : Int) (a : List Pr) : 0 ≤ cntN n a ∧ cntN n a ≤ 10000000000 := by
  by_cases h : seqE n a = 0
  · obtain ⟨hd, hn, _⟩ := seqE_zero h
    obtain ⟨m, rfl⟩ : ∃ m : Nat, n = (m : Int) := ⟨n.toNat, by have := hd.1.1; omega⟩
    rw [cntN_ok h, Int.toNat_natCast, ways_zero hd (by omega)]
    have h1 := sq_len_le m (rdA a) m 0
    have h2 := pow_le10 (n := m) (k := m) (by omega) (Nat.le_refl _)
    unfold seqsL
    omega
  · rw [cntN_no h]; omega
def shC (n i j : Int) : Prop := (0 ≤ i ∧ i < n) ∧ (0 ≤ j ∧ j < n) ∧ i ≠ j
instance (n i j : Int) : Decidable (shC n i j) := by unfold shC; infer_instance
theorem shr4 (n a b : Int) : ¬ (0 ≤ a ∧ a < n) ∨ ((0 ≤ a ∧ a < n) ∧ ¬ (0 ≤ b ∧ b < n)) ∨ ((0 ≤ a ∧ a < n) ∧ (0 ≤ b ∧ b < n) ∧ a = b) ∨ ((0 ≤ a ∧ a < n) ∧ (0 ≤ b ∧ b < n) ∧ ¬ a = b) := by omega
theorem vtx3 (n a : Int) : a < 0 ∨ (0 ≤ a ∧ n ≤ a) ∨ (0 ≤ a ∧ a < n) := by omega
def shE (n : Int) (a : List Pr) (i j : Int) : Int := if seqE n a = 0 then (if shC n i j then 0 else 2) else seqE n a
def moreA (a : List Pr) (i j : Int) : List Pr := srt (a ++ [(i, j)])
def shQ (n : Int) (a : List Pr) (i j : Int) : Rat := ofq (cntN n (moreA a i j)) (cntN n a)
def shO (n : Int) (a : List Pr) (i j : Int) : Option Rat := if shE n a i j = 0 then some (shQ n a i j) else none
theorem sh_no {n : Int} {a : List Pr} {i j : Int} (h : ¬ seqE n a = 0) : shO n a i j = none ∧ shE n a i j = seqE n a := by
  have : shE n a i j = seqE n a := if_neg h
  exact ⟨by unfold shO; rw [this, if_neg h], this⟩
theorem sh_bad {n : Int} {a : List Pr} {i j : Int} (h : seqE n a = 0) (h2 : ¬ shC n i j) : shO n a i j = none ∧ shE n a i j = 2 := by
  have : shE n a i j = 2 := by unfold shE; rw [if_pos h, if_neg h2]
  exact ⟨by unfold shO; rw [this]; rfl, this⟩
theorem sh_ok {n : Int} {a : List Pr} {i j : Int} (h : seqE n a = 0) (h2 : shC n i j) : shO n a i j = some (shQ n a i j) ∧ shE n a i j = 0 := by
  have : shE n a i j = 0 := by unfold shE; rw [if_pos h, if_pos h2]
  exact ⟨by unfold shO; rw [this]; rfl, this⟩
theorem qs_shQ (n : Int) (a : List Pr) (i j : Int) : qs (shQ n a i j) 3 := by
  have h1 := cntN_in n a
  have h2 := cntN_in n (moreA a i j)
  exact qs_ofq _ _ (by omega) (by omega)
/-! ## What is open -/
def opJ (n : Int) (a : List Pr) (i : Nat) : Nat → List Pr
  | 0 => []
  | t + 1 => if ¬ rchC n a (i : Int) ((i + 1 + t : Nat) : Int) ∧ ¬ rchC n a ((i + 1 + t : Nat) : Int) (i : Int) then opJ n a i t ++ [((i : Int), ((i + 1 + t : Nat) : Int))] else opJ n a i t
def opL (n : Int) (m : Nat) (a : List Pr) : Nat → List Pr
  | 0 => []
  | i + 1 => opL n m a i ++ opJ n a i (m - (i + 1))
theorem opJ_len (n : Int) (a : List Pr) (i : Nat) : ∀ t, (opJ n a i t).length ≤ t
  | 0 => Nat.le_refl _
  | t + 1 => by
    have := opJ_len n a i t
    rw [opJ]; split
    · rw [List.length_append]; simp; omega
    · omega
theorem opL_len (n : Int) (m : Nat) (a : List Pr) : ∀ i, (opL n m a i).length ≤ i * m
  | 0 => Nat.zero_le _
  | i + 1 => by
    have := opL_len n m a i
    have := opJ_len n a i (m - (i + 1))
    rw [opL, List.length_append, Nat.succ_mul]; omega
def opnR (n : Int) (a : List Pr) : List Pr := if seqE n a = 0 then opL n n.toNat a n.toNat else []
theorem opn_ok {n : Int} {a : List Pr} (h : seqE n a = 0) : opnR n a = opL n n.toNat a n.toNat := if_pos h
theorem opn_no {n : Int} {a : List Pr} (h : ¬ seqE n a = 0) : opnR n a = [] := if_neg h
theorem opn_len (n : Int) (a : List Pr) : (opnR n a).length ≤ 100 := by
  by_cases h : seqE n a = 0
  · obtain ⟨hd, hn, _⟩ := seqE_zero h
    rw [opn_ok h]
    have h1 := opL_len n n.toNat a n.toNat
    have h2 : n.toNat * n.toNat ≤ 10 * 10 := Nat.mul_le_mul (by omega) (by omega)
    omega
  · rw [opn_no h]; exact Nat.zero_le _
/-! ## What is balanced -/
def offQ (q : Rat) : Rat := if sgnQ (q - ofq 1 2) < 0 then -(q - ofq 1 2) else q - ofq 1 2
theorem off_lt {q : Rat} (h : sgnQ (q - ofq 1 2) < 0) : -(q - ofq 1 2) = offQ q := (if_pos h).symm
theorem off_ge {q : Rat} (h : ¬ sgnQ (q - ofq 1 2) < 0) : q - ofq 1 2 = offQ q := (if_neg h).symm
theorem qs_off {q : Rat} (h : qs q 3) : qs (q - ofq 1 2) 7 ∧ qs (offQ q) 7 := by
  have h1 : qs (q - ofq 1 2) 7 := h.sub (qs_ofq 1 2 (by decide) (by decide)) (by decide)
  refine ⟨h1, ?_⟩
  unfold offQ; split
  · exact h1.neg
  · exact h1
def balS (sh : Pr → Rat) (o : List Pr) : Nat → Pr × Option Rat × Option Rat
  | 0 => (dP, none, none)
  | i + 1 => if i = 0 ∨ cmpQ (offQ (sh (o.getD i dP))) (fval (balS sh o i).2.2) < 0 then (o.getD i dP, some (sh (o.getD i dP)), some (offQ (sh (o.getD i dP)))) else balS sh o i
theorem bal_up {sh : Pr → Rat} {o : List Pr} {i : Nat} {p : Pr} {o1 o2 : Option Rat} (h : balS sh o i = (p, o1, o2)) (hc : i = 0 ∨ cmpQ (offQ (sh (o.getD i dP))) (fval o2) < 0) : balS sh o (i + 1) = (o.getD i dP, some (sh (o.getD i dP)), some (offQ (sh (o.getD i dP)))) := by
  rw [balS, h, if_pos hc]
theorem bal_no {sh : Pr → Rat} {o : List Pr} {i : Nat} {p : Pr} {o1 o2 : Option Rat} (h : balS sh o i = (p, o1, o2)) (hc : ¬ (i = 0 ∨ cmpQ (offQ (sh (o.getD i dP))) (fval o2) < 0)) : balS sh o (i + 1) = (p, o1, o2) := by
  rw [balS, h, if_neg hc]
theorem bal_qs {sh : Pr → Rat} {o : List Pr} (hq : ∀ p, qs (sh p) 3) : ∀ i, qs (fval (balS sh o i).2.1) 3 ∧ qs (fval (balS sh o i).2.2) 7
  | 0 => ⟨(qs_small (q := 0) (by decide) (by decide)).mono (by decide), (qs_small (q := 0) (by decide) (by decide)).mono (by decide)⟩
  | i + 1 => by
    rw [balS]; split
    · exact ⟨hq _, (qs_off (hq _)).2⟩
    · exact bal_qs hq i
def balF (n : Int) (a : List Pr) : Pr × Option Rat × Option Rat := balS (fun p => shQ n a p.1 p.2) (opnR n a) (opnR n a).length
def balE (n : Int) (a : List Pr) : Int := if seqE n a = 0 then (if (opnR n a).length = 0 then 7 else 0) else seqE n a
def balP (n : Int) (a : List Pr) : Pr := if balE n a = 0 then (balF n a).1 else dP
def balO (n : Int) (a : List Pr) : Option Rat := if balE n a = 0 then (balF n a).2.1 else none
theorem balE_no {n : Int} {a : List Pr} (h : ¬ seqE n a = 0) : balE n a = seqE n a := if_neg h
theorem balE_7 {n : Int} {a : List Pr} (h : seqE n a = 0) (h2 : (opnR n a).length = 0) : balE n a = 7 := by unfold balE; rw [if_pos h, if_pos h2]
theorem balE_0 {n : Int} {a : List Pr} (h : seqE n a = 0) (h2 : ¬ (opnR n a).length = 0) : balE n a = 0 := by unfold balE; rw [if_pos h, if_neg h2]
theorem bal_none {n : Int} {a : List Pr} (h : ¬ balE n a = 0) : balP n a = dP ∧ balO n a = none := ⟨if_neg h, if_neg h⟩
theorem bal_some {n : Int} {a : List Pr} (h : balE n a = 0) : balP n a = (balF n a).1 ∧ balO n a = (balF n a).2.1 := ⟨if_pos h, if_pos h⟩
/-- a pair, a fraction and an error -/
def PFE (p : Pr) (o : Option Rat) (er : Int) (v : Value) (φo : List VP) : Prop := ∃ (ad : Option Addr) (c : Nat) (be : Option Addr) (e : Nat),
  v = .tuple #[.agg #[.int .i64 p.1, .int .i64 p.2], .agg #[.bool (fneg o), .slice ad (fnum o).length c, .slice be (fden o).length e], .int .i64 er] ∧ φo = [vCells ad (u32s (fnum o)), vCells be (u32s (fden o))]
/-- The places of the open pairs. -/
theorem opJ_in {n : Int} {a : List Pr} {i : Nat} {p : Pr} : ∀ {t : Nat}, p ∈ opJ n a i t → ∃ s, s < t ∧ p = ((i : Int), ((i + 1 + s : Nat) : Int)) ∧ ¬ rchC n a (i : Int) ((i + 1 + s : Nat) : Int) ∧ ¬ rchC n a ((i + 1 + s : Nat) : Int) (i : Int)
  | t + 1, h => by
    rw [opJ] at h
    split at h
    · rename_i hc
      rcases List.mem_append.1 h with h | h
      · obtain ⟨s, h1, h2⟩ := opJ_in h; exact ⟨s, by omega, h2⟩
      · exact ⟨t, by omega, List.mem_singleton.1 h, hc⟩
    · obtain ⟨s, h1, h2⟩ := opJ_in h; exact ⟨s, by omega, h2⟩
theorem opL_in {n : Int} {m : Nat} {a : List Pr} {p : Pr} : ∀ {k : Nat}, p ∈ opL n m a k → ∃ i j : Nat, i < k ∧ i < j ∧ (j < m ∨ m ≤ i) ∧ p = ((i : Int), (j : Int)) ∧ ¬ rchC n a (i : Int) (j : Int) ∧ ¬ rchC n a (j : Int) (i : Int)
  | k + 1, h => by
    rw [opL] at h
    rcases List.mem_append.1 h with h | h
    · obtain ⟨i, j, h1, h2⟩ := opL_in h; exact ⟨i, j, by omega, h2⟩
    · obtain ⟨s, h1, h2, h3, h4⟩ := opJ_in h
      exact ⟨k, k + 1 + s, by omega, by omega, by omega, h2, h3, h4⟩
theorem opn_in {n : Int} {a : List Pr} {p : Pr} (h : p ∈ opnR n a) : seqE n a = 0 ∧ shC n p.1 p.2 := by
  by_cases h0 : seqE n a = 0
  · rw [opn_ok h0] at h
    obtain ⟨hd, hn, _⟩ := seqE_zero h0
    obtain ⟨i, j, h1, h2, h3, rfl, _⟩ := opL_in h
    refine ⟨h0, ⟨by simp only; omega, by simp only; omega⟩, ⟨by simp only; omega, by simp only; omega⟩, by simp only; omega⟩
  · rw [opn_no h0] at h; cases h
theorem shr_len (n : Int) (a : List Pr) : (shrR n a).length ≤ 576 := by
  by_cases h : seqE n a = 0
  · obtain ⟨hd, hn, _⟩ := seqE_zero h
    rw [shr_ok h, (cls_ok hd).1]
    have h1 := lstL_len (reachL n.toNat a) n.toNat
    have h2 := reachL_len n.toNat a
    have h3 : n.toNat * n.toNat ≤ 24 * 24 := Nat.mul_le_mul (by omega) (by omega)
    unfold clsL
    rw [h2] at h1
    omega
  · rw [shr_no h]; exact Nat.zero_le _
end Go.Fw
