/- Chapter 48: splits, lumps, unions. Plain. -/
import Derived.Test.YthaepkealhkkmaaCcB
namespace Go.Fw
open Go Go.RowKit

abbrev AscI (l : List Int) : Prop := l.Pairwise (· < ·)
theorem AscI.ext : ∀ {a b : List Int}, AscI a → AscI b → (∀ x, x ∈ a ↔ x ∈ b) → a = b
  | [], [], _, _, _ => rfl
  | [], y :: b, _, _, h => absurd ((h y).2 List.mem_cons_self) (by simp)
  | x :: a, [], _, _, h => absurd ((h x).1 List.mem_cons_self) (by simp)
  | x :: a, y :: b, ha, hb, h => by
    have ha' := List.pairwise_cons.1 ha
    have hb' := List.pairwise_cons.1 hb
    have hxy : x = y := by
      rcases List.mem_cons.1 ((h x).1 List.mem_cons_self) with e | e
      · exact e
      · rcases List.mem_cons.1 ((h y).2 List.mem_cons_self) with e' | e'
        · exact e'.symm
        · have h1 := ha'.1 y e'
          have h2 := hb'.1 x e
          omega
    subst hxy
    rw [AscI.ext ha'.2 hb'.2 fun z => ?_]
    constructor
    · intro hz
      rcases List.mem_cons.1 ((h z).1 (List.mem_cons_of_mem _ hz)) with e | e
      · subst e; have := ha'.1 z hz; omega
      · exact e
    · intro hz
      rcases List.mem_cons.1 ((h z).2 (List.mem_cons_of_mem _ hz)) with e | e
      · subst e; have := hb'.1 z hz; omega
      · exact e
theorem getD_memI {l : List Int} {j : Nat} (h : j < l.length) : l.getD j 0 ∈ l := List.mem_of_getElem? (getD_someG h)
theorem cpI_asc {d : List Int} (hd : ∀ i j, i < j → j < d.length → d.getD i 0 ≤ d.getD j 0) : ∀ {i : Nat}, i ≤ d.length → AscI (cpG 0 d i)
  | 0, _ => List.Pairwise.nil
  | i + 1, hi => by
    have ih := cpI_asc hd (i := i) (by omega)
    rw [cpG]
    split
    · exact ih
    · rename_i hne
      refine List.pairwise_append.2 ⟨ih, List.pairwise_singleton _ _, ?_⟩
      intro x hx y hy
      obtain rfl := List.mem_singleton.1 hy
      obtain ⟨j, hj, rfl⟩ := cpG_mem.1 hx
      have h1 := hd j i hj (by omega)
      rcases Int.lt_or_eq_of_le h1 with e | e
      · exact e
      · exfalso
        apply hne
        refine ⟨by omega, ?_⟩
        by_cases hji : j = i - 1
        · rw [← hji, e]
        · have h2 := hd j (i - 1) (by omega) (by omega)
          have h3 := hd (i - 1) i (by omega) (by omega)
          omega
theorem cpI_mem {d : List Int} {x : Int} : x ∈ cpG 0 d d.length ↔ x ∈ d := by
  rw [cpG_mem]
  constructor
  · rintro ⟨j, hj, rfl⟩; exact getD_memI hj
  · intro hx
    obtain ⟨j, hj, e⟩ := List.mem_iff_getElem.1 hx
    exact ⟨j, hj, by rw [List.getD_eq_getElem?_getD, List.getElem?_eq_getElem hj]; exact e⟩
/-! ## Splits -/
def dupL (l : List Pr) : Nat → List Int
  | 0 => []
  | i + 1 => if 0 < i ∧ (l.getD (i - 1) dP).1 = (l.getD i dP).1 then dupL l i ++ [(l.getD i dP).1] else dupL l i
theorem dupL_len (l : List Pr) : ∀ i, (dupL l i).length ≤ i
  | 0 => Nat.le_refl _
  | i + 1 => by
    have := dupL_len l i
    rw [dupL]
    split
    · rw [List.length_append]; simp; omega
    · omega
theorem dupL_mem {l : List Pr} {x : Int} : ∀ {i : Nat}, x ∈ dupL l i ↔ ∃ j, 0 < j ∧ j < i ∧ (l.getD (j - 1) dP).1 = x ∧ (l.getD j dP).1 = x
  | 0 => by simp [dupL]
  | i + 1 => by
    have ih := dupL_mem (l := l) (x := x) (i := i)
    rw [dupL]
    split
    · rename_i h
      rw [List.mem_append, ih, List.mem_singleton]
      constructor
      · rintro (⟨j, h0, hj, e⟩ | e)
        · exact ⟨j, h0, by omega, e⟩
        · exact ⟨i, h.1, by omega, by rw [h.2]; exact e.symm, e.symm⟩
      · rintro ⟨j, h0, hj, e1, e2⟩
        by_cases hji : j = i
        · subst hji; exact .inr e2.symm
        · exact .inl ⟨j, h0, by omega, e1, e2⟩
    · rename_i h
      rw [ih]
      constructor
      · rintro ⟨j, h0, hj, e⟩; exact ⟨j, h0, by omega, e⟩
      · rintro ⟨j, h0, hj, e1, e2⟩
        by_cases hji : j = i
        · subst hji; exact absurd ⟨h0, e1.trans e2.symm⟩ h
        · exact ⟨j, h0, by omega, e1, e2⟩
theorem asc_fst {l : List Pr} (h : Asc l) {i j : Nat} (hij : i ≤ j) (hj : j < l.length) : (l.getD i dP).1 ≤ (l.getD j dP).1 := by
  rcases Nat.eq_or_lt_of_le hij with e | e
  · subst e; exact Int.le_refl _
  · have := List.pairwise_iff_getElem.1 h i j (by omega) hj e
    rw [List.getD_eq_getElem?_getD, List.getD_eq_getElem?_getD, List.getElem?_eq_getElem (by omega), List.getElem?_eq_getElem hj]
    show l[i].1 ≤ l[j].1
    rcases this with h | h <;> omega
theorem dupL_top {l : List Pr} (h : Asc l) : ∀ {i : Nat}, i ≤ l.length → ∀ x ∈ dupL l i, ∀ n, i ≤ n → n < l.length → x ≤ (l.getD n dP).1 := by
  intro i hi x hx n hn hnl
  obtain ⟨j, _, hj, _, e⟩ := dupL_mem.1 hx
  rw [← e]
  exact asc_fst h (by omega) hnl
theorem dupL_mono {l : List Pr} (h : Asc l) : ∀ {i : Nat}, i ≤ l.length → (dupL l i).Pairwise (· ≤ ·)
  | 0, _ => List.Pairwise.nil
  | i + 1, hi => by
    have ih := dupL_mono h (i := i) (by omega)
    rw [dupL]
    split
    · refine List.pairwise_append.2 ⟨ih, List.pairwise_singleton _ _, fun x hx y hy => ?_⟩
      obtain rfl := List.mem_singleton.1 hy
      exact dupL_top h (by omega) x hx i (Nat.le_refl _) (by omega)
    · exact ih
theorem mono_getD {d : List Int} (h : d.Pairwise (· ≤ ·)) : ∀ i j, i < j → j < d.length → d.getD i 0 ≤ d.getD j 0 := fun i j hij hj => by
  have := List.pairwise_iff_getElem.1 h i j (by omega) hj hij
  rw [List.getD_eq_getElem?_getD, List.getD_eq_getElem?_getD, List.getElem?_eq_getElem (by omega), List.getElem?_eq_getElem hj]
  exact this
def splR (l : List Pr) : List Int := if validC l then cpG 0 (dupL l l.length) (dupL l l.length).length else []
theorem splR_ok {l : List Pr} (h : validC l) : splR l = cpG 0 (dupL l l.length) (dupL l l.length).length := if_pos h
theorem splR_no {l : List Pr} (h : ¬ validC l) : splR l = [] := if_neg h
theorem splR_asc (l : List Pr) : AscI (splR l) := by
  by_cases h : validC l
  · rw [splR_ok h]; exact cpI_asc (mono_getD (dupL_mono h.asc (Nat.le_refl _))) (Nat.le_refl _)
  · rw [splR_no h]; exact List.Pairwise.nil
theorem mem_splR {l : List Pr} (h : validC l) {x : Int} : x ∈ splR l ↔ ∃ j, 0 < j ∧ j < l.length ∧ (l.getD (j - 1) dP).1 = x ∧ (l.getD j dP).1 = x := by
  rw [splR_ok h, cpI_mem, dupL_mem]
theorem splR_len (l : List Pr) : (splR l).length ≤ 128 := by
  by_cases h : validC l
  · rw [splR_ok h]
    have h1 := cpG_len (z := (0 : Int)) (dupL l l.length) (dupL l l.length).length
    have h2 := dupL_len l l.length
    have h3 := h.2
    omega
  · rw [splR_no h]; exact Nat.zero_le _
/-- The reference's way: every number is asked. -/
def spN (l : List Pr) : Nat → List Int
  | 0 => []
  | k + 1 => if 1 < (lukL l ((k + 1 : Nat) : Int) l.length).length then spN l k ++ [((k + 1 : Nat) : Int)] else spN l k
theorem spN_len (l : List Pr) : ∀ k, (spN l k).length ≤ k
  | 0 => Nat.le_refl _
  | k + 1 => by
    have := spN_len l k
    rw [spN]
    split
    · rw [List.length_append]; simp; omega
    · omega
theorem spN_mem {l : List Pr} {x : Int} : ∀ {k : Nat}, x ∈ spN l k ↔ ∃ j : Nat, 1 ≤ j ∧ j ≤ k ∧ x = (j : Int) ∧ 1 < (lukL l x l.length).length
  | 0 => by
    simp only [spN, List.not_mem_nil, false_iff]
    rintro ⟨j, h1, h2, _⟩; omega
  | k + 1 => by
    have ih := spN_mem (l := l) (x := x) (k := k)
    rw [spN]
    split
    · rename_i h
      rw [List.mem_append, ih, List.mem_singleton]
      constructor
      · rintro (⟨j, h1, h2, e⟩ | rfl)
        · exact ⟨j, h1, by omega, e⟩
        · exact ⟨k + 1, by omega, Nat.le_refl _, rfl, h⟩
      · rintro ⟨j, h1, h2, e, h3⟩
        by_cases hj : j = k + 1
        · subst hj; exact .inr e
        · exact .inl ⟨j, h1, by omega, e, h3⟩
    · rename_i h
      rw [ih]
      constructor
      · rintro ⟨j, h1, h2, e⟩; exact ⟨j, h1, by omega, e⟩
      · rintro ⟨j, h1, h2, e, h3⟩
        by_cases hj : j = k + 1
        · subst hj; rw [e] at h3; exact absurd h3 h
        · exact ⟨j, h1, by omega, e, h3⟩
theorem spN_asc (l : List Pr) : ∀ k, AscI (spN l k)
  | 0 => List.Pairwise.nil
  | k + 1 => by
    have ih := spN_asc l k
    rw [spN]
    split
    · refine List.pairwise_append.2 ⟨ih, List.pairwise_singleton _ _, fun x hx y hy => ?_⟩
      obtain rfl := List.mem_singleton.1 hy
      obtain ⟨j, _, hj, e, _⟩ := spN_mem.1 hx
      omega
    · exact ih
/-- Two with the same first number stand next to each other. -/
theorem luk_two {l : List Pr} (h : Asc l) {x : Int} : ∀ {i : Nat}, i ≤ l.length → (1 < (lukL l x i).length ↔ ∃ j, 0 < j ∧ j < i ∧ (l.getD (j - 1) dP).1 = x ∧ (l.getD j dP).1 = x)
  | 0, _ => by
    simp only [lukL, List.length_nil]
    constructor
    · intro h; omega
    · rintro ⟨j, h1, h2, _⟩; omega
  | i + 1, hi => by
    have ih := luk_two h (x := x) (i := i) (by omega)
    rw [lukL]
    split
    · rename_i he
      rw [List.length_append]
      constructor
      · intro hl
        have hpos : 0 < (lukL l x i).length := by simp at hl; omega
        have : ∀ k, k ≤ i → 0 < (lukL l x k).length → ∃ j, j < k ∧ (l.getD j dP).1 = x := by
          intro k
          induction k with
          | zero => intro _ h; simp [lukL] at h
          | succ k ihk =>
            intro hk h
            rw [lukL] at h
            split at h
            · rename_i e; exact ⟨k, by omega, e⟩
            · obtain ⟨j, hj, e⟩ := ihk (by omega) h; exact ⟨j, by omega, e⟩
        obtain ⟨j, hj, e⟩ := this i (Nat.le_refl _) hpos
        refine ⟨i, by omega, by omega, ?_, he⟩
        have h1 := asc_fst h (i := j) (j := i - 1) (by omega) (by omega)
        have h2 := asc_fst h (i := i - 1) (j := i) (by omega) (by omega)
        omega
      · rintro ⟨j, h0, hj, e1, e2⟩
        by_cases hji : j = i
        · subst hji
          have : 0 < (lukL l x j).length := by
            have e3 : lukL l x j = lukL l x (j - 1) ++ [(l.getD (j - 1) dP).2] := by
              conv => lhs; rw [show j = (j - 1) + 1 from by omega, lukL]
              rw [if_pos e1]
            rw [e3, List.length_append]; simp
          simp; omega
        · have := ih.2 ⟨j, h0, by omega, e1, e2⟩
          simp; omega
    · rename_i he
      rw [ih]
      constructor
      · rintro ⟨j, h0, hj, e⟩; exact ⟨j, h0, by omega, e⟩
      · rintro ⟨j, h0, hj, e1, e2⟩
        by_cases hji : j = i
        · subst hji; exact absurd e2 he
        · exact ⟨j, h0, by omega, e1, e2⟩
theorem spl_ref {l : List Pr} (h : validC l) : spN l 999 = splR l := by
  refine AscI.ext (spN_asc l 999) (splR_asc l) fun x => ?_
  rw [spN_mem, mem_splR h]
  constructor
  · rintro ⟨_, _, _, _, h3⟩; exact (luk_two h.asc (Nat.le_refl _)).1 h3
  · rintro hx
    have h3 := (luk_two h.asc (Nat.le_refl _)).2 hx
    obtain ⟨j, _, hj, _, e⟩ := hx
    have hn := (h.1 j hj).1.1
    rw [e] at hn
    exact ⟨x.toNat, by omega, by omega, by omega, h3⟩
def lumR (l : List Pr) : List Int := if validC l then splR (invR l) else []
theorem lumR_ok {l : List Pr} (h : validC l) : lumR l = splR (invR l) := if_pos h
theorem lumR_no {l : List Pr} (h : ¬ validC l) : lumR l = [] := if_neg h
theorem lumR_len (l : List Pr) : (lumR l).length ≤ 128 := by
  unfold lumR; split
  · exact splR_len _
  · exact Nat.zero_le _
theorem invR_len (l : List Pr) : (invR l).length ≤ 128 := by
  by_cases h : validC l
  · rw [invR_ok h]; exact inv_short h
  · rw [invR_no h]; exact Nat.zero_le _
def exB (l : List Pr) : Bool := decide (validC l ∧ (splR l).length = 0 ∧ (lumR l).length = 0)
/-! ## Unions -/
def unF (l m : List Pr) : Nat → List Pr
  | 0 => l
  | k + 1 => insP (unF l m k) (m.getD k dP)
theorem unF_len (l m : List Pr) : ∀ k, (unF l m k).length ≤ l.length + k
  | 0 => Nat.le_refl _
  | k + 1 => by
    have := unF_len l m k
    have h2 := (insP_len (p := m.getD k dP) (l := unF l m k)).2
    rw [unF]; omega
theorem unF_srt {l m : List Pr} (h : Asc l) : ∀ {k : Nat}, k ≤ m.length → unF l m k = srt (l ++ m.take k)
  | 0, _ => by rw [unF, List.take_zero, List.append_nil]; exact (srt_eq h (fun _ => Iff.rfl)).symm
  | k + 1, hk => by
    rw [unF, unF_srt h (by omega), List.take_add_one, getD_some (by omega)]
    show _ = srt (l ++ (m.take k ++ [m.getD k dP]))
    rw [← List.append_assoc, srt_snoc]
theorem un_all {l m : List Pr} (h : Asc l) : unF l m m.length = srt (l ++ m) := by rw [unF_srt h (Nat.le_refl _), List.take_length]
def limR (l : List Pr) : List Pr := if l.length ≤ 128 then l else []
def limE (l : List Pr) : Int := if l.length ≤ 128 then 0 else 6
theorem limR_ok {l : List Pr} (h : l.length ≤ 128) : limR l = l ∧ limE l = 0 := ⟨if_pos h, if_pos h⟩
theorem limR_no {l : List Pr} (h : ¬ l.length ≤ 128) : limR l = [] ∧ limE l = 6 := ⟨if_neg h, if_neg h⟩
theorem lim_srt (l : List Pr) : limR (srt l) = sortR l ∧ limE (srt l) = sortE l := ⟨rfl, rfl⟩
theorem dup3 (i : Nat) : i = 0 ∨ 0 < i := Nat.eq_zero_or_pos i
end Go.Fw
