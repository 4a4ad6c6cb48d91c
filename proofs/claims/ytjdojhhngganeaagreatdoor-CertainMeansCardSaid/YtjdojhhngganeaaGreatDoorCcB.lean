/- Chapter 48: concordances, what they lead to. Plain. -/
import Derived.Test.YtjdojhhngganeaaGreatDoorCcA
namespace Go.Fw
open Go Go.RowKit

def or2 (a b : Int) : Int := if a ≠ 0 then a else if b ≠ 0 then b else 0
theorem or2_hit {a b : Int} {k : Nat} (hk : k < 2) (h0 : 0 < k → a = 0) (h : [a, b].getD k 0 ≠ 0) : or2 a b = [a, b].getD k 0 := by
  rcases Nat.eq_zero_or_pos k with e | e
  · subst e; exact if_pos h
  · have e1 : k = 1 := by omega
    subst e1
    unfold or2
    rw [if_neg (fun e => e (h0 (by omega)))]
    exact if_pos h
theorem or2_miss {a b : Int} (h0 : a = 0) (h1 : b = 0) : or2 a b = 0 := by subst h0; subst h1; rfl
abbrev numOk (n : Int) : Prop := 1 ≤ n ∧ n ≤ 999
def okAt (l : List Pr) (i : Nat) : Prop := (numOk (l.getD i dP).1 ∧ numOk (l.getD i dP).2) ∧ (0 < i → ltP (l.getD (i - 1) dP) (l.getD i dP))
instance (l : List Pr) (i : Nat) : Decidable (okAt l i) := by unfold okAt; infer_instance
def validC (l : List Pr) : Prop := (∀ i, i < l.length → okAt l i) ∧ l.length ≤ 128
instance (l : List Pr) : Decidable (validC l) := by unfold validC; infer_instance
theorem validC_no {l : List Pr} {i : Nat} (hi : i < l.length) (h : ¬ okAt l i) : decide (validC l) = false := decide_eq_false fun hv => h (hv.1 i hi)
theorem validC_len {l : List Pr} (h : ∀ i, i < l.length → okAt l i) : decide (validC l) = decide (l.length ≤ 128) := by
  by_cases hl : l.length ≤ 128
  · rw [decide_eq_true hl, decide_eq_true ⟨h, hl⟩]
  · rw [decide_eq_false hl, decide_eq_false (fun hv => hl hv.2)]
theorem okAt_no1 {l : List Pr} {i : Nat} (h : ¬ numOk (l.getD i dP).1) : ¬ okAt l i := fun e => h e.1.1
theorem okAt_no2 {l : List Pr} {i : Nat} (h : ¬ numOk (l.getD i dP).2) : ¬ okAt l i := fun e => h e.1.2
theorem okAt_no3 {l : List Pr} {i : Nat} (h0 : 0 < i) (h : ¬ ltP (l.getD (i - 1) dP) (l.getD i dP)) : ¬ okAt l i := fun e => h (e.2 h0)
theorem validC.asc {l : List Pr} (h : validC l) : Asc l := by
  have step : ∀ i, i + 1 < l.length → ltP (l.getD i dP) (l.getD (i + 1) dP) := fun i hi => (h.1 (i + 1) hi).2 (by omega)
  have far : ∀ d i, i + d + 1 < l.length → ltP (l.getD i dP) (l.getD (i + d + 1) dP) := by
    intro d
    induction d with
    | zero => intro i hi; exact step i hi
    | succ d ih => intro i hi; exact (ih i (by omega)).trans (step (i + d + 1) hi)
  refine List.pairwise_iff_getElem.2 fun i j hi hj hij => ?_
  have := far (j - i - 1) i (by omega)
  rw [show i + (j - i - 1) + 1 = j from by omega] at this
  rw [List.getD_eq_getElem?_getD, List.getD_eq_getElem?_getD, List.getElem?_eq_getElem hi, List.getElem?_eq_getElem hj] at this
  exact this
theorem validC.num {l : List Pr} (h : validC l) {x : Pr} (hx : x ∈ l) : numOk x.1 ∧ numOk x.2 := by
  obtain ⟨i, hi, rfl⟩ := List.mem_iff_getElem.1 hx
  have := (h.1 i hi).1
  rwa [List.getD_eq_getElem?_getD, List.getElem?_eq_getElem hi] at this
theorem validC_of {l : List Pr} (ha : Asc l) (hn : ∀ x ∈ l, numOk x.1 ∧ numOk x.2) (hl : l.length ≤ 128) : validC l := by
  refine ⟨fun i hi => ⟨hn _ (getD_mem2 hi), fun h0 => ?_⟩, hl⟩
  have := List.pairwise_iff_getElem.1 ha (i - 1) i (by omega) hi (by omega)
  rw [List.getD_eq_getElem?_getD, List.getD_eq_getElem?_getD, List.getElem?_eq_getElem (by omega), List.getElem?_eq_getElem hi]
  exact this
def valE (l : List Pr) : Int := if validC l then 0 else 1
/-- What is sorted, if it is not too long. -/
def sortR (l : List Pr) : List Pr := if (srt l).length ≤ 128 then srt l else []
def sortE (l : List Pr) : Int := if (srt l).length ≤ 128 then 0 else 6
theorem sortR_ok {l : List Pr} (h : (srt l).length ≤ 128) : sortR l = srt l ∧ sortE l = 0 := ⟨if_pos h, if_pos h⟩
theorem sortR_no {l : List Pr} (h : ¬ (srt l).length ≤ 128) : sortR l = [] ∧ sortE l = 6 := ⟨if_neg h, if_neg h⟩
def lukL (l : List Pr) (n : Int) : Nat → List Int
  | 0 => []
  | i + 1 => if (l.getD i dP).1 = n then lukL l n i ++ [(l.getD i dP).2] else lukL l n i
theorem lukL_len (l : List Pr) (n : Int) : ∀ i, (lukL l n i).length ≤ i
  | 0 => Nat.le_refl _
  | i + 1 => by
    have := lukL_len l n i
    rw [lukL]
    split
    · rw [List.length_append]; simp; omega
    · omega
def lukR (l : List Pr) (n : Int) : List Int := if validC l then lukL l n l.length else []
theorem lukR_ok {l : List Pr} {n : Int} (h : validC l) : lukR l n = lukL l n l.length := if_pos h
theorem lukR_no {l : List Pr} {n : Int} (h : ¬ validC l) : lukR l n = [] := if_neg h
theorem valE_ok {l : List Pr} (h : validC l) : valE l = 0 := if_pos h
theorem valE_no {l : List Pr} (h : ¬ validC l) : valE l = 1 := if_neg h
def SPI (R : List Int) (er : Int) (v : Value) (φo : List VP) : Prop := ∃ (ad : Option Addr) (c : Nat), v = .tuple #[.slice ad R.length c, .int .i64 er] ∧ (R.length ≤ c ∧ c ≤ 9223372036854775807) ∧ φo = [vCells ad (i64s R)]
def SPP (R : List Pr) (er : Int) (v : Value) (φo : List VP) : Prop := ∃ (ad : Option Addr) (c : Nat), v = .tuple #[.slice ad R.length c, .int .i64 er] ∧ (R.length ≤ c ∧ c ≤ 9223372036854775807) ∧ φo = [vCells ad (pcells R)]
theorem nilP {w : World} {X : Nat → Prop} : (vCells none (pcells [])).holds X w := by
  intro j u hj; simp [pcells] at hj
theorem nilI {w : World} {X : Nat → Prop} : (vCells none (i64s [])).holds X w := by
  intro j u hj; simp [i64s] at hj
end Go.Fw
namespace Go.Fw
open Go Go.RowKit
theorem ok4 (l : List Pr) (i : Nat) : ¬ numOk (l.getD i dP).1 ∨ (numOk (l.getD i dP).1 ∧ ¬ numOk (l.getD i dP).2) ∨ (numOk (l.getD i dP).1 ∧ numOk (l.getD i dP).2 ∧ i = 0) ∨ (numOk (l.getD i dP).1 ∧ numOk (l.getD i dP).2 ∧ 0 < i) := by
  by_cases h1 : numOk (l.getD i dP).1
  · by_cases h2 : numOk (l.getD i dP).2
    · rcases Nat.eq_zero_or_pos i with h | h
      · exact .inr (.inr (.inl ⟨h1, h2, h⟩))
      · exact .inr (.inr (.inr ⟨h1, h2, h⟩))
    · exact .inr (.inl ⟨h1, h2⟩)
  · exact .inl h1
theorem ok5 (l : List Pr) (i : Nat) : ¬ numOk (l.getD i dP).1 ∨ (numOk (l.getD i dP).1 ∧ ¬ numOk (l.getD i dP).2) ∨ (numOk (l.getD i dP).1 ∧ numOk (l.getD i dP).2 ∧ i = 0) ∨ (numOk (l.getD i dP).1 ∧ numOk (l.getD i dP).2 ∧ 0 < i ∧ ltP (l.getD (i - 1) dP) (l.getD i dP)) ∨ (numOk (l.getD i dP).1 ∧ numOk (l.getD i dP).2 ∧ 0 < i ∧ ¬ ltP (l.getD (i - 1) dP) (l.getD i dP)) := by
  rcases ok4 l i with h | h | h | ⟨h1, h2, h3⟩
  · exact .inl h
  · exact .inr (.inl h)
  · exact .inr (.inr (.inl h))
  · by_cases h4 : ltP (l.getD (i - 1) dP) (l.getD i dP)
    · exact .inr (.inr (.inr (.inl ⟨h1, h2, h3, h4⟩)))
    · exact .inr (.inr (.inr (.inr ⟨h1, h2, h3, h4⟩)))
theorem okNext {l : List Pr} {i : Nat} (h : ∀ j, j < i → okAt l j) (hi : okAt l i) : ∀ j, j < i + 1 → okAt l j := fun j hj => by
  by_cases e : j = i
  · subst e; exact hi
  · exact h j (by omega)
end Go.Fw
namespace Go.Fw
open Go Go.RowKit
theorem cellsTake {X : Nat → Prop} {w : World} {ad : Option Addr} {l : List Pr} (k : Nat) (h : (vCells ad (pcells l)).holds X w) : (vCells ad (pcells (l.take k))).holds X w := by
  intro j u hj
  rw [← pcells_take, List.getElem?_take] at hj
  split at hj
  · exact h j u hj
  · cases hj
theorem cellsDrop {X : Nat → Prop} {w : World} {ad : Option Addr} {l : List Pr} (c k : Nat) (hc : l.length ≤ c) (h : (vCells ad (pcells l)).holds X w) : (vCells (subAd ad c k 2) (pcells (l.drop k))).holds X w := by
  intro j u hj
  rw [← pcells_drop, List.getElem?_drop] at hj
  obtain ⟨b, o, he, hX, hcell⟩ := h (k * 2 + j) u hj
  have hlt := (List.getElem?_eq_some_iff.1 hj).1
  rw [pcells_length] at hlt
  subst he
  unfold subAd
  split
  · rename_i e; subst e; omega
  · refine ⟨b, o + k * 2, by simp [Addr.add], hX, ?_⟩
    rw [Nat.add_assoc]; exact hcell
theorem insCases (l : List Pr) (k : Nat) (p : Pr) : (k < l.length ∧ ltP (l.getD k dP) p) ∨ (k < l.length ∧ ¬ ltP (l.getD k dP) p) ∨ ¬ k < l.length := by
  by_cases h : k < l.length
  · by_cases h2 : ltP (l.getD k dP) p
    · exact .inl ⟨h, h2⟩
    · exact .inr (.inl ⟨h, h2⟩)
  · exact .inr (.inr h)
theorem eqCases (l : List Pr) (k : Nat) (p : Pr) : (k < l.length ∧ l.getD k dP = p) ∨ (k < l.length ∧ ¬ l.getD k dP = p) ∨ ¬ k < l.length := by
  by_cases h : k < l.length
  · by_cases h2 : l.getD k dP = p
    · exact .inl ⟨h, h2⟩
    · exact .inr (.inl ⟨h, h2⟩)
  · exact .inr (.inr h)
def IPP (R : List Pr) (v : Value) (φo : List VP) : Prop := ∃ (ad : Option Addr) (c : Nat), v = .slice ad R.length c ∧ (R.length ≤ c ∧ c ≤ 9223372036854775807) ∧ φo = [vCells ad (pcells R)]
theorem insNext {l : List Pr} {k : Nat} {p : Pr} (h : ∀ j, j < k → ltP (l.getD j dP) p) (hk : ltP (l.getD k dP) p) : ∀ j, j < k + 1 → ltP (l.getD j dP) p := fun j hj => by
  by_cases e : j = k
  · subst e; exact hk
  · exact h j (by omega)
end Go.Fw
namespace Go.Fw
open Go Go.RowKit
theorem caps0 : (0 : Nat) ≤ 0 ∧ 0 ≤ 9223372036854775807 := ⟨Nat.le_refl _, Nat.zero_le _⟩
/-! ## The inverse -/
def invF (l : List Pr) : Nat → List Pr
  | 0 => []
  | i + 1 => invF l i ++ [((l.getD i dP).2, (l.getD i dP).1)]
theorem invF_len (l : List Pr) : ∀ i, (invF l i).length = i
  | 0 => rfl
  | i + 1 => by rw [invF, List.length_append, invF_len l i]; rfl
theorem mem_invF {l : List Pr} {x : Pr} : ∀ {i : Nat}, i ≤ l.length → (x ∈ invF l i ↔ ∃ j, j < i ∧ l.getD j dP = (x.2, x.1))
  | 0, _ => by simp [invF]
  | i + 1, h => by
    rw [invF, List.mem_append, mem_invF (by omega), List.mem_singleton]
    constructor
    · rintro (⟨j, hj, e⟩ | rfl)
      · exact ⟨j, by omega, e⟩
      · exact ⟨i, by omega, rfl⟩
    · rintro ⟨j, hj, e⟩
      by_cases hji : j = i
      · subst hji; right; rw [e]
      · exact .inl ⟨j, by omega, e⟩
theorem mem_inv {l : List Pr} {x : Pr} : x ∈ invF l l.length ↔ (x.2, x.1) ∈ l := by
  rw [mem_invF (Nat.le_refl _)]
  constructor
  · rintro ⟨j, hj, e⟩; rw [← e]; exact getD_mem2 hj
  · intro h
    obtain ⟨j, hj, e⟩ := List.mem_iff_getElem.1 h
    exact ⟨j, hj, by rw [List.getD_eq_getElem?_getD, List.getElem?_eq_getElem hj]; exact e⟩
def invR (l : List Pr) : List Pr := if validC l then srt (invF l l.length) else []
theorem invR_ok {l : List Pr} (h : validC l) : invR l = srt (invF l l.length) := if_pos h
theorem invR_no {l : List Pr} (h : ¬ validC l) : invR l = [] := if_neg h
theorem inv_short {l : List Pr} (h : validC l) : (srt (invF l l.length)).length ≤ 128 := by
  have := srt_len (invF l l.length)
  rw [invF_len] at this
  have := h.2
  omega
theorem mem_invR {l : List Pr} (h : validC l) {x : Pr} : x ∈ invR l ↔ (x.2, x.1) ∈ l := by rw [invR_ok h, mem_srt, mem_inv]
theorem inv_sort {l : List Pr} (h : validC l) : sortR (invF l l.length) = invR l ∧ sortE (invF l l.length) = 0 := by
  rw [invR_ok h]; exact sortR_ok (inv_short h)
theorem valid_inv {l : List Pr} (h : validC l) : validC (invR l) := by
  refine validC_of (by rw [invR_ok h]; exact asc_srt _) (fun x hx => ?_) (by rw [invR_ok h]; exact inv_short h)
  have := h.num ((mem_invR h).1 hx)
  exact ⟨this.2, this.1⟩
/-! ## The composition -/
def cmpJ (p : Pr) (m : List Pr) : Nat → List Pr
  | 0 => []
  | j + 1 => if p.2 = (m.getD j dP).1 then cmpJ p m j ++ [(p.1, (m.getD j dP).2)] else cmpJ p m j
def cmpL (l m : List Pr) : Nat → List Pr
  | 0 => []
  | i + 1 => cmpL l m i ++ cmpJ (l.getD i dP) m m.length
theorem cmpJ_len (p : Pr) (m : List Pr) : ∀ j, (cmpJ p m j).length ≤ j
  | 0 => Nat.le_refl _
  | j + 1 => by
    have := cmpJ_len p m j
    rw [cmpJ]
    split
    · rw [List.length_append]; simp; omega
    · omega
theorem cmpL_len (l m : List Pr) : ∀ i, (cmpL l m i).length ≤ i * m.length
  | 0 => Nat.zero_le _
  | i + 1 => by
    have h1 := cmpL_len l m i
    have h2 := cmpJ_len (l.getD i dP) m m.length
    rw [cmpL, List.length_append, Nat.succ_mul]
    omega
theorem mem_cmpJ {p : Pr} {m : List Pr} {x : Pr} : ∀ {j : Nat}, x ∈ cmpJ p m j ↔ ∃ k, k < j ∧ p.2 = (m.getD k dP).1 ∧ x = (p.1, (m.getD k dP).2)
  | 0 => by simp [cmpJ]
  | j + 1 => by
    have ih := mem_cmpJ (p := p) (m := m) (x := x) (j := j)
    rw [cmpJ]
    split
    · rename_i h
      rw [List.mem_append, ih, List.mem_singleton]
      constructor
      · rintro (⟨k, hk, e⟩ | rfl)
        · exact ⟨k, by omega, e⟩
        · exact ⟨j, by omega, h, rfl⟩
      · rintro ⟨k, hk, e1, e2⟩
        by_cases hkj : k = j
        · subst hkj; exact .inr e2
        · exact .inl ⟨k, by omega, e1, e2⟩
    · rename_i h
      rw [ih]
      constructor
      · rintro ⟨k, hk, e⟩; exact ⟨k, by omega, e⟩
      · rintro ⟨k, hk, e1, e2⟩
        by_cases hkj : k = j
        · subst hkj; exact absurd e1 h
        · exact ⟨k, by omega, e1, e2⟩
theorem mem_cmpL {l m : List Pr} {x : Pr} : ∀ {i : Nat}, x ∈ cmpL l m i ↔ ∃ k, k < i ∧ x ∈ cmpJ (l.getD k dP) m m.length
  | 0 => by simp [cmpL]
  | i + 1 => by
    rw [cmpL, List.mem_append, mem_cmpL (i := i)]
    constructor
    · rintro (⟨k, hk, e⟩ | e)
      · exact ⟨k, by omega, e⟩
      · exact ⟨i, by omega, e⟩
    · rintro ⟨k, hk, e⟩
      by_cases hki : k = i
      · subst hki; exact .inr e
      · exact .inl ⟨k, by omega, e⟩
theorem mem_cmp {l m : List Pr} {x : Pr} : x ∈ cmpL l m l.length ↔ ∃ b, (x.1, b) ∈ l ∧ (b, x.2) ∈ m := by
  rw [mem_cmpL]
  constructor
  · rintro ⟨k, hk, h⟩
    obtain ⟨n, hn, e1, rfl⟩ := mem_cmpJ.1 h
    refine ⟨(l.getD k dP).2, getD_mem2 hk, ?_⟩
    rw [e1]; exact getD_mem2 hn
  · rintro ⟨b, h1, h2⟩
    obtain ⟨k, hk, e⟩ := List.mem_iff_getElem.1 h1
    obtain ⟨n, hn, e'⟩ := List.mem_iff_getElem.1 h2
    have g1 : l.getD k dP = (x.1, b) := by rw [List.getD_eq_getElem?_getD, List.getElem?_eq_getElem hk]; exact e
    have g2 : m.getD n dP = (b, x.2) := by rw [List.getD_eq_getElem?_getD, List.getElem?_eq_getElem hn]; exact e'
    exact ⟨k, hk, mem_cmpJ.2 ⟨n, hn, by rw [g1, g2], by rw [g1, g2]⟩⟩
theorem srt_len_pre (a b : List Pr) : (srt a).length ≤ (srt (a ++ b)).length := by
  induction b generalizing a with
  | nil => simp
  | cons x b ih =>
    have h1 := srt_len_mono a x
    have h2 := ih (a ++ [x])
    rw [List.append_assoc] at h2
    exact Nat.le_trans h1 h2
theorem cmpL_pre (l m : List Pr) : ∀ {i n : Nat}, i ≤ n → ∃ b, cmpL l m n = cmpL l m i ++ b := by
  intro i n h
  induction n with
  | zero => obtain rfl : i = 0 := by omega
            exact ⟨[], by simp⟩
  | succ n ih =>
    by_cases e : i = n + 1
    · subst e; exact ⟨[], by simp⟩
    · obtain ⟨b, hb⟩ := ih (by omega)
      exact ⟨b ++ cmpJ (l.getD n dP) m m.length, by rw [cmpL, hb, List.append_assoc]⟩
theorem cmpJ_pre (p : Pr) (m : List Pr) : ∀ {j n : Nat}, j ≤ n → ∃ b, cmpJ p m n = cmpJ p m j ++ b := by
  intro j n h
  induction n with
  | zero => obtain rfl : j = 0 := by omega
            exact ⟨[], by simp⟩
  | succ n ih =>
    by_cases e : j = n + 1
    · subst e; exact ⟨[], by simp⟩
    · obtain ⟨b, hb⟩ := ih (by omega)
      rw [cmpJ]
      split
      · exact ⟨b ++ [(p.1, (m.getD n dP).2)], by rw [hb, List.append_assoc]⟩
      · exact ⟨b, hb⟩
theorem cmp_full {l m : List Pr} {i j : Nat} (hi : i < l.length) (hj : j ≤ m.length) (h : 128 < (srt (cmpL l m i ++ cmpJ (l.getD i dP) m j)).length) : ¬ (srt (cmpL l m l.length)).length ≤ 128 := by
  obtain ⟨b, hb⟩ := cmpL_pre l m (i := i + 1) (n := l.length) (by omega)
  obtain ⟨c, hc⟩ := cmpJ_pre (l.getD i dP) m hj
  have := srt_len_pre (cmpL l m i ++ cmpJ (l.getD i dP) m j) (c ++ b)
  rw [show (cmpL l m i ++ cmpJ (l.getD i dP) m j) ++ (c ++ b) = cmpL l m l.length from by rw [hb, cmpL, hc]; simp only [List.append_assoc]] at this
  omega
/-- Both lists are asked. -/
def bothR (l m : List Pr) (R : List Pr) : List Pr := if validC l ∧ validC m then sortR R else []
def bothE (l m : List Pr) (R : List Pr) : Int := if validC l ∧ validC m then sortE R else 1
theorem both_ok {l m R : List Pr} (h : validC l ∧ validC m) : bothR l m R = sortR R ∧ bothE l m R = sortE R := ⟨if_pos h, if_pos h⟩
theorem both_no {l m R : List Pr} (h : ¬ (validC l ∧ validC m)) : bothR l m R = [] ∧ bothE l m R = 1 := ⟨if_neg h, if_neg h⟩
theorem sort_len (l : List Pr) : (sortR l).length ≤ 128 := by
  by_cases h : (srt l).length ≤ 128
  · rw [(sortR_ok h).1]; exact h
  · rw [(sortR_no h).1]; exact Nat.zero_le _
end Go.Fw
