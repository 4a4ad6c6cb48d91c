/- Chapter 48: editions, their keys and numbers, and what two of them have in common. Plain. -/
import Derived.Test.YthaepkealhkkmaaCcC
import Derived.Test.YthaepkealhkkmaaFwQ
namespace Go.Fw
open Go Go.RowKit

/-! ## The numbers of an edition, in order -/
def srtI (l : List Int) : List Int := l.mergeSort fun x y => decide (x ≤ y)
theorem srtI_len (l : List Int) : (srtI l).length = l.length := List.length_mergeSort _
theorem mem_srtI {x : Int} {l : List Int} : x ∈ srtI l ↔ x ∈ l := List.mem_mergeSort
theorem srtI_perm (l : List Int) : (srtI l).Perm l := List.mergeSort_perm _ _
theorem srtI_mono (l : List Int) : (srtI l).Pairwise (· ≤ ·) := by
  have h := List.pairwise_mergeSort (le := fun x y : Int => decide (x ≤ y)) (fun a b c h1 h2 => by
    rw [decide_eq_true_eq] at *; omega) (fun a b => by
    rcases Int.le_total a b with h | h <;> simp [h]) l
  exact h.imp fun h => by simpa using h
/-- Strictly ascending numbers from lo to hi. -/
abbrev upAt (l : List Int) (lo hi : Int) (i : Nat) : Prop := (lo ≤ l.getD i 0 ∧ l.getD i 0 ≤ hi) ∧ (0 < i → l.getD (i - 1) 0 < l.getD i 0)
abbrev upC (l : List Int) (lo hi : Int) : Prop := ∀ i, i < l.length → upAt l lo hi i
theorem upNext {l : List Int} {lo hi : Int} {i : Nat} (h : ∀ j, j < i → upAt l lo hi j) (hi' : upAt l lo hi i) : ∀ j, j < i + 1 → upAt l lo hi j := fun j hj => by
  by_cases e : j = i
  · subst e; exact hi'
  · exact h j (by omega)
theorem upC_getD {l : List Int} (h : ∀ i, i < l.length → 0 < i → l.getD (i - 1) 0 < l.getD i 0) : ∀ {j i : Nat}, i < j → j < l.length → l.getD i 0 < l.getD j 0
  | 0, _, hij, _ => by omega
  | j + 1, i, hij, hj => by
    have h1 := h (j + 1) hj (by omega)
    rw [Nat.add_sub_cancel] at h1
    by_cases e : i = j
    · subst e; exact h1
    · have := upC_getD h (j := j) (i := i) (by omega) (by omega)
      omega
theorem upC_iff {l : List Int} {lo hi : Int} : upC l lo hi ↔ AscI l ∧ ∀ x ∈ l, lo ≤ x ∧ x ≤ hi := by
  constructor
  · intro h
    refine ⟨List.pairwise_iff_getElem.2 fun i j hi hj hij => ?_, fun x hx => ?_⟩
    · have := upC_getD (fun k hk h0 => (h k hk).2 h0) hij hj
      rw [List.getD_eq_getElem?_getD, List.getD_eq_getElem?_getD, List.getElem?_eq_getElem hi, List.getElem?_eq_getElem hj] at this
      exact this
    · obtain ⟨j, hj, e⟩ := List.mem_iff_getElem.1 hx
      have := (h j hj).1
      rw [List.getD_eq_getElem?_getD, List.getElem?_eq_getElem hj] at this
      rw [← e]; exact this
  · rintro ⟨h, hb⟩ i hi
    refine ⟨hb _ (getD_memI hi), fun h0 => ?_⟩
    have := List.pairwise_iff_getElem.1 h (i - 1) i (by omega) hi (by omega)
    rw [List.getD_eq_getElem?_getD, List.getD_eq_getElem?_getD, List.getElem?_eq_getElem hi, List.getElem?_eq_getElem (by omega)]
    exact this
abbrev ascC (l : List Int) (most : Int) : Prop := upC l 1 most ∧ l.length ≤ 64
theorem up4 (l : List Int) (lo hi : Int) (i : Nat) : l.getD i 0 < lo ∨ (lo ≤ l.getD i 0 ∧ hi < l.getD i 0) ∨ ((lo ≤ l.getD i 0 ∧ l.getD i 0 ≤ hi) ∧ i = 0) ∨ ((lo ≤ l.getD i 0 ∧ l.getD i 0 ≤ hi) ∧ 0 < i ∧ l.getD i 0 ≤ l.getD (i - 1) 0) ∨ ((lo ≤ l.getD i 0 ∧ l.getD i 0 ≤ hi) ∧ 0 < i ∧ l.getD (i - 1) 0 < l.getD i 0) := by
  omega
theorem upC_no {l : List Int} {lo hi : Int} {i : Nat} (hi' : i < l.length) (h : ¬ upAt l lo hi i) : decide (upC l lo hi) = false := decide_eq_false fun e => h (e i hi')
theorem ascC_no {l : List Int} {most : Int} {i : Nat} (hi' : i < l.length) (h : ¬ upAt l 1 most i) : decide (ascC l most) = false := decide_eq_false fun e => h (e.1 i hi')
/-! ## Editions -/
abbrev keysL (E : List Pr) : List Int := E.map (·.1)
abbrev numsL (E : List Pr) : List Int := srtI (E.map (·.2))
def edC (E : List Pr) (R : List Int) : Prop := ascC (keysL E) 9999 ∧ ascC (numsL E) 999 ∧ ascC R 999 ∧ ∀ x ∈ R, x ∉ numsL E
instance (E : List Pr) (R : List Int) : Decidable (edC E R) := by unfold edC; infer_instance
theorem map_getD2 {E : List Pr} {i : Nat} : (E.map (·.2)).getD i 0 = (E.getD i dP).2 := by
  rw [List.getD_eq_getElem?_getD, List.getD_eq_getElem?_getD, List.getElem?_map]
  cases E[i]? <;> rfl
theorem map_getD1 {E : List Pr} {i : Nat} : (E.map (·.1)).getD i 0 = (E.getD i dP).1 := by
  rw [List.getD_eq_getElem?_getD, List.getD_eq_getElem?_getD, List.getElem?_map]
  cases E[i]? <;> rfl
theorem take_snoc1 {E : List Pr} {i : Nat} (h : i < E.length) : (E.map (·.1)).take i ++ [(E.getD i dP).1] = (E.map (·.1)).take (i + 1) := by
  rw [List.take_add_one, List.getElem?_map, getD_some h]; rfl
theorem take_snoc2 {E : List Pr} {i : Nat} (h : i < E.length) : (E.map (·.2)).take i ++ [(E.getD i dP).2] = (E.map (·.2)).take (i + 1) := by
  rw [List.take_add_one, List.getElem?_map, getD_some h]; rfl
/-- What a key leads to. -/
def fndP (E : List Pr) (k : Int) : Option Pr := E.find? fun p => decide (p.1 = k)
theorem fndP_hit {E : List Pr} {k : Int} {i : Nat} (hi : i < E.length) (he : (E.getD i dP).1 = k) (hj : ∀ j, j < i → (E.getD j dP).1 ≠ k) : fndP E k = some (E.getD i dP) := by
  unfold fndP
  rw [List.find?_eq_some_iff_getElem]
  refine ⟨by simpa using he, i, hi, ?_, fun j hj' => ?_⟩
  · rw [List.getD_eq_getElem?_getD, List.getElem?_eq_getElem hi]; rfl
  · have := hj j hj'
    rw [List.getD_eq_getElem?_getD, List.getElem?_eq_getElem (by omega)] at this
    simpa using this
theorem fndP_miss {E : List Pr} {k : Int} (hj : ∀ j, j < E.length → (E.getD j dP).1 ≠ k) : fndP E k = none := by
  unfold fndP
  rw [List.find?_eq_none]
  intro p hp
  obtain ⟨j, hj', e⟩ := List.mem_iff_getElem.1 hp
  have := hj j hj'
  rw [List.getD_eq_getElem?_getD, List.getElem?_eq_getElem hj'] at this
  rw [← e]; simpa using this
def fndV (E : List Pr) (k : Int) : Int := ((fndP E k).getD dP).2
def fndB (E : List Pr) (k : Int) : Bool := (fndP E k).isSome
theorem fnd_hit {E : List Pr} {k : Int} {i : Nat} (hi : i < E.length) (he : (E.getD i dP).1 = k) (hj : ∀ j, j < i → (E.getD j dP).1 ≠ k) : fndV E k = (E.getD i dP).2 ∧ fndB E k = true := by
  unfold fndV fndB; rw [fndP_hit hi he hj]; exact ⟨rfl, rfl⟩
theorem fnd_miss {E : List Pr} {k : Int} (hj : ∀ j, j < E.length → (E.getD j dP).1 ≠ k) : fndV E k = 0 ∧ fndB E k = false := by
  unfold fndV fndB; rw [fndP_miss hj]; exact ⟨rfl, rfl⟩
def numV (E : List Pr) (R : List Int) (k : Int) : Int := if edC E R then fndV E k else 0
def numE (E : List Pr) (R : List Int) (k : Int) : Int := if edC E R then (if fndB E k then 0 else 7) else 1
theorem num_ok {E : List Pr} {R : List Int} {k : Int} (h : edC E R) (hb : fndB E k = true) : numV E R k = fndV E k ∧ numE E R k = 0 := by
  unfold numV numE; rw [if_pos h, if_pos h, if_pos hb]; exact ⟨rfl, rfl⟩
theorem num_none {E : List Pr} {R : List Int} {k : Int} (h : edC E R) (hb : fndB E k = false) : numV E R k = 0 ∧ numE E R k = 7 := by
  unfold numV numE; rw [if_pos h, if_pos h, hb]
  refine ⟨?_, rfl⟩
  unfold fndV fndB at *
  rw [Option.isSome_eq_false_iff, Option.isNone_iff_eq_none] at hb
  rw [hb]; rfl
theorem num_no {E : List Pr} {R : List Int} {k : Int} (h : ¬ edC E R) : numV E R k = 0 ∧ numE E R k = 1 := by
  unfold numV numE; rw [if_neg h, if_neg h]; exact ⟨rfl, rfl⟩
/-- What both editions number. -/
def ofL (E F : List Pr) : Nat → List Pr
  | 0 => []
  | i + 1 => if fndB F (E.getD i dP).1 then ofL E F i ++ [((E.getD i dP).2, fndV F (E.getD i dP).1)] else ofL E F i
theorem ofL_len (E F : List Pr) : ∀ i, (ofL E F i).length ≤ i
  | 0 => Nat.le_refl _
  | i + 1 => by
    have := ofL_len E F i
    rw [ofL]
    split
    · rw [List.length_append]; simp; omega
    · omega
theorem edC_len {E : List Pr} {R : List Int} (h : edC E R) : E.length ≤ 64 ∧ R.length ≤ 64 := ⟨by have := h.1.2; rwa [List.length_map] at this, h.2.2.1.2⟩
def ofR (E : List Pr) (R : List Int) (F : List Pr) (S : List Int) : List Pr := if edC E R ∧ edC F S then srt (ofL E F E.length) else []
def ofE (E : List Pr) (R : List Int) (F : List Pr) (S : List Int) : Int := if edC E R ∧ edC F S then 0 else 1
theorem of_ok {E F : List Pr} {R S : List Int} (h : edC E R ∧ edC F S) : ofR E R F S = srt (ofL E F E.length) ∧ ofE E R F S = 0 := ⟨if_pos h, if_pos h⟩
theorem of_no {E F : List Pr} {R S : List Int} (h : ¬ (edC E R ∧ edC F S)) : ofR E R F S = [] ∧ ofE E R F S = 1 := ⟨if_neg h, if_neg h⟩
theorem of_sort {E F : List Pr} {R S : List Int} (h : edC E R ∧ edC F S) : sortR (ofL E F E.length) = ofR E R F S ∧ sortE (ofL E F E.length) = ofE E R F S := by
  have h1 := srt_len (ofL E F E.length)
  have h2 := ofL_len E F E.length
  have h3 := (edC_len h.1).1
  rw [(of_ok h).1, (of_ok h).2]
  exact sortR_ok (by omega)
theorem ofR_len (E F : List Pr) (R S : List Int) : (ofR E R F S).length ≤ 64 := by
  by_cases h : edC E R ∧ edC F S
  · have h1 := srt_len (ofL E F E.length)
    have h2 := ofL_len E F E.length
    have h3 := (edC_len h.1).1
    rw [(of_ok h).1]; omega
  · rw [(of_no h).1]; exact Nat.zero_le _
end Go.Fw
namespace Go.Fw
open Go Go.RowKit
def III (R : List Int) (v : Value) (φo : List VP) : Prop := ∃ (ad : Option Addr) (c : Nat), v = .slice ad R.length c ∧ (R.length ≤ c ∧ c ≤ 9223372036854775807) ∧ φo = [vCells ad (i64s R)]
theorem any_mem {R L : List Int} : (List.range R.length).any (fun k => decide (R.getD k 0 ∈ L)) = false ↔ ∀ x ∈ R, x ∉ L := by
  rw [List.any_eq_false]
  constructor
  · intro h x hx
    obtain ⟨j, hj, e⟩ := List.mem_iff_getElem.1 hx
    have := h j (List.mem_range.2 hj)
    rw [List.getD_eq_getElem?_getD, List.getElem?_eq_getElem hj] at this
    rw [← e]; simpa using this
  · intro h k hk
    have := h _ (getD_memI (List.mem_range.1 hk))
    simpa using this
theorem ed_last {E : List Pr} {R : List Int} (h1 : ascC (keysL E) 9999) (h2 : ascC (numsL E) 999) (h3 : ascC R 999) : (! (List.range R.length).any (fun k => decide (R.getD k 0 ∈ numsL E))) = decide (edC E R) := by
  by_cases h : ∀ x ∈ R, x ∉ numsL E
  · rw [any_mem.2 h, decide_eq_true (show edC E R from ⟨h1, h2, h3, h⟩)]; rfl
  · rw [decide_eq_false (fun e : edC E R => h e.2.2.2)]
    cases hx : (List.range R.length).any (fun k => decide (R.getD k 0 ∈ numsL E)) with
    | true => rfl
    | false => exact absurd (any_mem.1 hx) h
theorem mem_of_first {p : Nat → Bool} {L : List Int} {x : Int} {n : Nat} {r : Int} (hn : n = L.length) (hp : ∀ k, k < n → p k = decide (x = L.getD k 0)) (h : firstI p n r) : decide (0 ≤ r) = decide (x ∈ L) := by
  rw [any_of_first h]
  subst hn
  by_cases hx : x ∈ L
  · rw [decide_eq_true hx, List.any_eq_true]
    obtain ⟨j, hj, e⟩ := List.mem_iff_getElem.1 hx
    refine ⟨j, List.mem_range.2 hj, ?_⟩
    rw [hp j hj, List.getD_eq_getElem?_getD, List.getElem?_eq_getElem hj]
    simpa using e.symm
  · rw [decide_eq_false hx, List.any_eq_false]
    intro k hk
    rw [hp k (List.mem_range.1 hk)]
    intro h
    have h := of_decide_eq_true h
    exact hx (h ▸ getD_memI (List.mem_range.1 hk))
theorem no_mem {L : List Int} {x : Int} (h : ∀ j, j < L.length → L.getD j 0 ≠ x) : x ∉ L := fun hx => by
  obtain ⟨j, hj, e⟩ := List.mem_iff_getElem.1 hx
  have := h j hj
  rw [List.getD_eq_getElem?_getD, List.getElem?_eq_getElem hj] at this
  exact this e
end Go.Fw
