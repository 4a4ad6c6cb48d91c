/- Chapter 16: die numbers that ascend, places in ascending lists, graphs that are valid. Plain. -/
import Derived.Test.YtmambmpohkollaaGreatDoorCnAB
import Derived.Test.YtmambmpohkollaaGreatDoorCnR
import Derived.Test.YtmambmpohkollaaGreatDoorFwTW
import Derived.Test.YtmambmpohkollaaGreatDoorFwEE
namespace Go.Fw.Cn
open Go Go.RowKit Go.Fw
theorem memI_first {x : Int} {L : List Int} {r : Int} (h : firstI (fun j => decide (x = L.getD j 0)) L.length r) : decide (0 ≤ r) = decide (x ∈ L) := by
  rw [decide_eq_decide]
  rcases h with ⟨rfl, h⟩ | ⟨j, hj, rfl, h1, h2⟩
  · exact ⟨fun e => absurd e (by decide), fun hx => by
      obtain ⟨j, hj, e⟩ := List.mem_iff_getElem.1 hx
      have h2 : decide (x = L.getD j 0) = false := h j hj
      exact absurd (show x = L.getD j 0 by rw [List.getD_eq_getElem?_getD, List.getElem?_eq_getElem hj]; exact e.symm) (of_decide_eq_false h2)⟩
  · refine ⟨fun _ => ?_, fun _ => by omega⟩
    have := of_decide_eq_true h1
    rw [this, List.getD_eq_getElem?_getD, List.getElem?_eq_getElem hj]
    exact List.getElem_mem hj
theorem getI_mem {l : List Int} {j : Nat} (h : j < l.length) : l.getD j 0 ∈ l := by
  rw [List.getD_eq_getElem?_getD, List.getElem?_eq_getElem h]; exact List.getElem_mem h
theorem mem_getI {l : List Int} {x : Int} (h : x ∈ l) : ∃ j, j < l.length ∧ l.getD j 0 = x := by
  obtain ⟨j, hj, e⟩ := List.mem_iff_getElem.1 h
  exact ⟨j, hj, by rw [List.getD_eq_getElem?_getD, List.getElem?_eq_getElem hj, e]; rfl⟩
/-! ## Die numbers -/
def nmA (L : List Int) (i : Nat) : Prop := 1 ≤ L.getD i 0 ∧ L.getD i 0 ≤ 999 ∧ (i = 0 ∨ L.getD (i - 1) 0 < L.getD i 0)
instance (L : List Int) (i : Nat) : Decidable (nmA L i) := by unfold nmA; infer_instance
def nmL (L : List Int) : Prop := ∀ i, i < L.length → nmA L i
instance (L : List Int) : Decidable (nmL L) := by unfold nmL; infer_instance
theorem nm_step {L : List Int} {i : Nat} (h : ∀ j, j < i → nmA L j) (h2 : nmA L i) : ∀ j, j < i + 1 → nmA L j := fun j hj => by
  by_cases e : j = i
  · subst e; exact h2
  · exact h j (by omega)
theorem nm5 (L : List Int) (i : Nat) : L.getD i 0 < 1 ∨ (¬ L.getD i 0 < 1 ∧ 999 < L.getD i 0) ∨ (¬ L.getD i 0 < 1 ∧ ¬ 999 < L.getD i 0 ∧ ¬ (0 : Int) < (i : Int)) ∨
    (¬ L.getD i 0 < 1 ∧ ¬ 999 < L.getD i 0 ∧ (0 : Int) < (i : Int) ∧ L.getD i 0 ≤ L.getD (i - 1) 0) ∨ (¬ L.getD i 0 < 1 ∧ ¬ 999 < L.getD i 0 ∧ (0 : Int) < (i : Int) ∧ ¬ L.getD i 0 ≤ L.getD (i - 1) 0) := by omega
theorem nm_no {L : List Int} {i : Nat} (hi : i < L.length) (h : ¬ nmA L i) : decide (nmL L) = false := decide_eq_false fun c => h (c i hi)
/-- Strictly ascending. -/
def ascI (L : List Int) : Prop := ∀ i j, i < j → j < L.length → L.getD i 0 < L.getD j 0
theorem nmL.asc {L : List Int} (h : nmL L) : ascI L := by
  intro i j hij hj
  induction j with
  | zero => omega
  | succ j ih =>
    have h1 := (h (j + 1) hj).2.2.resolve_left (by omega)
    rw [Nat.add_sub_cancel] at h1
    rcases Nat.lt_or_ge i j with hl | hl
    · have := ih hl (by omega); omega
    · obtain rfl : i = j := by omega
      exact h1
theorem nmL.pos {L : List Int} (h : nmL L) {x : Int} (hx : x ∈ L) : 1 ≤ x ∧ x ≤ 999 := by
  obtain ⟨j, hj, rfl⟩ := mem_getI hx
  exact ⟨(h j hj).1, (h j hj).2.1⟩
/-- The place of a number in an ascending list: how many are smaller at the beginning. -/
def bsI (x : Int) : List Int → Nat
  | [] => 0
  | y :: l => if y < x then bsI x l + 1 else 0
theorem bsI_eq {x : Int} : ∀ {L : List Int} {i : Nat}, i ≤ L.length → (∀ k, k < i → L.getD k 0 < x) → (i < L.length → x ≤ L.getD i 0) → bsI x L = i
  | [], i, h, _, _ => by simp at h; subst h; rfl
  | y :: l, 0, _, _, h2 => by
    have : x ≤ y := h2 (by simp)
    rw [bsI, if_neg (by omega)]
  | y :: l, i + 1, h, h1, h2 => by
    have h0 : y < x := h1 0 (by omega)
    rw [bsI, if_pos h0, bsI_eq (by simpa using h) (fun k hk => by simpa using h1 (k + 1) (by omega)) (fun hi => by simpa using h2 (by simpa using hi))]
structure BS (L : List Int) (x : Int) (i j : Nat) : Prop where
  le : i ≤ j
  len : j ≤ L.length
  lo : ∀ k, k < i → L.getD k 0 < x
  hi : ∀ k, j ≤ k → k < L.length → x ≤ L.getD k 0
theorem BS.zero (L : List Int) (x : Int) : BS L x 0 L.length := ⟨Nat.zero_le _, Nat.le_refl _, fun k hk => absurd hk (Nat.not_lt_zero _), fun k h1 h2 => absurd h2 (by omega)⟩
theorem asc_le {L : List Int} (h : ascI L) {i j : Nat} (hij : i ≤ j) (hj : j < L.length) : L.getD i 0 ≤ L.getD j 0 := by
  rcases Nat.lt_or_eq_of_le hij with h1 | rfl
  · exact Int.le_of_lt (h i j h1 hj)
  · exact Int.le_refl _
theorem BS.up {L : List Int} {x : Int} {i j m : Nat} (h : BS L x i j) (ha : ascI L) (hm : m < j) (hx : L.getD m 0 < x) : BS L x (m + 1) j :=
  ⟨hm, h.len, fun k hk => Int.lt_of_le_of_lt (asc_le ha (by omega) (Nat.lt_of_lt_of_le hm h.len)) hx, h.hi⟩
theorem BS.down {L : List Int} {x : Int} {i j m : Nat} (h : BS L x i j) (ha : ascI L) (hi : i ≤ m) (hm : m < j) (hx : ¬ L.getD m 0 < x) : BS L x i m :=
  ⟨hi, Nat.le_trans (Nat.le_of_lt hm) h.len, h.lo, fun k h1 h2 => Int.le_trans (by omega) (asc_le ha h1 h2)⟩
theorem BS.bs {L : List Int} {x : Int} {i j : Nat} (h : BS L x i j) (hij : j ≤ i) : bsI x L = i := by
  have := h.le
  obtain rfl : i = j := by omega
  exact bsI_eq h.len h.lo (h.hi i (Nat.le_refl _))
theorem BS.yes {L : List Int} {x : Int} {i : Nat} (hl : i < L.length) (he : L.getD i 0 = x) : decide (x ∈ L) = true := decide_eq_true (he ▸ getI_mem hl)
theorem BS.no {L : List Int} {x : Int} {i j : Nat} (h : BS L x i j) (hij : j ≤ i) (ha : ascI L) (hn : ¬ (i < L.length ∧ L.getD i 0 = x)) : decide (x ∈ L) = false := by
  refine decide_eq_false fun hx => hn ?_
  obtain ⟨k, hk, e⟩ := mem_getI hx
  have hle := h.le
  obtain rfl : i = j := by omega
  have hik : i ≤ k := Nat.le_of_not_lt fun hk2 => by have := h.lo k hk2; omega
  have h1 := h.hi i (Nat.le_refl _) (by omega)
  have h2 := asc_le ha hik hk
  exact ⟨by omega, by omega⟩
theorem bsI_get {L : List Int} (ha : ascI L) {x : Int} (hx : x ∈ L) : bsI x L < L.length ∧ L.getD (bsI x L) 0 = x := by
  obtain ⟨k, hk, e⟩ := mem_getI hx
  have : bsI x L = k := bsI_eq (by omega) (fun j hj => by rw [← e]; exact ha j k hj hk) (fun _ => by omega)
  rw [this]; exact ⟨hk, e⟩
theorem bsI_inj {L : List Int} (ha : ascI L) {i : Nat} (hi : i < L.length) : bsI (L.getD i 0) L = i := bsI_eq (by omega) (fun j hj => ha j i hj hi) (fun _ => Int.le_refl _)
theorem shr1_nat {i j : Nat} : ((i : Int) + (j : Int)).fdiv (2 ^ (min (1 : Int).toNat IntKind.u64.bits)) = (((i + j) / 2 : Nat) : Int) := by
  rw [← Int.natCast_add]
  exact shr_nat .u64 (i + j) 1 (by decide)
end Go.Fw.Cn

/- Chapter 16: what the program finds while it matches columns, counts equal ones, makes columns; orders visited one after the other. Plain. -/
namespace Go.Fw.Cn
open Go Go.RowKit Go.Fw
theorem list_eq_of {L M : List Int} (hl : L.length = M.length) (h : ∀ j, j < L.length → L.getD j 0 = M.getD j 0) : L = M :=
  List.ext_getElem hl fun j h1 h2 => by
    have := h j h1
    rwa [List.getD_eq_getElem?_getD, List.getD_eq_getElem?_getD, List.getElem?_eq_getElem h1, List.getElem?_eq_getElem h2] at this
/-- Where the search for a column stands: k is equal, the ones before it that are equal are taken. -/
structure MK (C : List (List Int)) (x : List Int) (o : List Nat) (k : Nat) : Prop where
  lt : k < C.length
  eq : C.getD k [] = x
  bef : ∀ j, j < k → C.getD j [] = x → j ∈ o
theorem MK.step {C : List (List Int)} {x : List Int} {o : List Nat} {k r : Nat} (h : MK C x o k) (hk : k ∈ o) (h1 : r < (C.drop (k + 1)).length) (h2 : (C.drop (k + 1)).getD r [] = x) (h3 : ∀ j, j < r → (C.drop (k + 1)).getD j [] ≠ x) : MK C x o (k + (1 + r)) := by
  have hd : ∀ j, (C.drop (k + 1)).getD j [] = C.getD (k + (1 + j)) [] := fun j => by
    rw [List.getD_eq_getElem?_getD, List.getElem?_drop, List.getD_eq_getElem?_getD, show k + 1 + j = k + (1 + j) by omega]
  rw [List.length_drop] at h1
  refine ⟨by omega, by rw [← hd]; exact h2, fun j hj e => ?_⟩
  rcases Nat.lt_trichotomy j k with h4 | rfl | h4
  · exact h.bef j h4 e
  · exact hk
  · obtain ⟨i, rfl⟩ : ∃ i, j = k + (1 + i) := ⟨j - k - 1, by omega⟩
    rw [← hd] at e
    exact absurd e (h3 i (by omega))
theorem MK.none {C : List (List Int)} {x : List Int} {o : List Nat} {k : Nat} (h : MK C x o k) (hk : k ∈ o) (h3 : ∀ j, j < (C.drop (k + 1)).length → (C.drop (k + 1)).getD j [] ≠ x) : ∀ j, j < C.length → C.getD j [] = x → j ∈ o := by
  have hd : ∀ j, (C.drop (k + 1)).getD j [] = C.getD (k + (1 + j)) [] := fun j => by
    rw [List.getD_eq_getElem?_getD, List.getElem?_drop, List.getD_eq_getElem?_getD, show k + 1 + j = k + (1 + j) by omega]
  intro j hj e
  rcases Nat.lt_trichotomy j k with h4 | rfl | h4
  · exact h.bef j h4 e
  · exact hk
  · obtain ⟨i, rfl⟩ : ∃ i, j = k + (1 + i) := ⟨j - k - 1, by omega⟩
    rw [← hd] at e
    exact absurd e (h3 i (by rw [List.length_drop]; omega))
/-- What matching has found after i columns. -/
def MI (C own : List (List Int)) (i : Nat) (o : List Nat) : Prop := mt C own C.length i = some o ∧ o.length = i
theorem mt_len {C own : List (List Int)} {n : Nat} : ∀ {i : Nat} {o : List Nat}, mt C own n i = some o → o.length = i
  | 0, o, h => by cases h; rfl
  | i + 1, o, h => by
    rw [mt, Option.bind_eq_some_iff] at h
    obtain ⟨p, h1, h2⟩ := h
    rw [Option.map_eq_some_iff] at h2
    obtain ⟨v, _, rfl⟩ := h2
    rw [List.length_append, mt_len h1]; rfl
theorem MI.zero (C own : List (List Int)) : MI C own 0 [] := ⟨rfl, rfl⟩
theorem MI.step {C own : List (List Int)} {i k : Nat} {o : List Nat} (h : MI C own i o) (hk : MK C (own.getD i []) o k) (ho : k ∉ o) : MI C own (i + 1) (o ++ [k]) := by
  have h2 := h.2
  refine ⟨?_, by rw [List.length_append, h.2]; rfl⟩
  rw [mt, h.1, Option.bind_some, gx_first hk.lt (by unfold gv; rw [h2, hk.eq]; simp [ho]) (fun u hu => by
    unfold gv
    rw [h2]
    by_cases e : C.getD u [] = own.getD i []
    · simp [hk.bef u hu e]
    · rw [decide_eq_false (p := C.getD u [] = own.getD i []) e, Bool.and_false])]
  rfl
theorem MI.no {C own : List (List Int)} {i : Nat} {o : List Nat} (h : MI C own i o) (hn : ∀ j, j < C.length → C.getD j [] = own.getD i [] → j ∈ o) : ∀ {m}, i < m → mt C own C.length m = none := by
  have h2 := h.2
  intro m hm
  induction m with
  | zero => omega
  | succ m ih =>
    rcases Nat.lt_or_ge i m with h3 | h3
    · rw [mt, ih h3]; rfl
    · obtain rfl : i = m := by omega
      rw [mt, h.1, Option.bind_some, gx_none (fun u hu => by
        unfold gv
        rw [h2]
        by_cases e : C.getD u [] = own.getD i []
        · simp [hn u hu e]
        · rw [decide_eq_false (p := C.getD u [] = own.getD i []) e, Bool.and_false])]
      rfl
/-- The same with rows in memory: the index may be -1. -/
def KI (B : List Rw) (x : List Int) (o : List Nat) (r : Int) : Prop := (r = -1 ∧ ∀ j, j < (Rls B).length → (Rls B).getD j [] ≠ x) ∨ ∃ k : Nat, r = k ∧ MK (Rls B) x o k
theorem Rls_len (l : List Rw) : (Rls l).length = l.length := List.length_map _
theorem KI.of {B : List Rw} {x : List Int} {o : List Nat} {r : Int} (h : firstI (fun j => decide (x = (B.getD j dR).L)) B.length r) : KI B x o r := by
  rcases h with ⟨rfl, h⟩ | ⟨k, hk, rfl, h1, h2⟩
  · refine .inl ⟨rfl, fun j hj e => ?_⟩
    rw [Rls_len] at hj
    rw [← Rls_get hj] at e
    exact absurd e.symm (of_decide_eq_false (h j hj))
  · refine .inr ⟨k, rfl, by rw [Rls_len]; exact hk, by rw [← Rls_get hk]; exact (of_decide_eq_true h1).symm, fun j hj e => ?_⟩
    rw [← Rls_get (by omega)] at e
    exact absurd e.symm (of_decide_eq_false (h2 j hj))
theorem KI.le {B : List Rw} {x : List Int} {o : List Nat} {r : Int} (h : KI B x o r) : -1 ≤ r ∧ r < B.length := by
  rcases h with ⟨rfl, _⟩ | ⟨k, rfl, h⟩
  · omega
  · have := h.lt; rw [Rls_len] at this; omega
theorem KI.three {B : List Rw} {x : List Int} {o : List Nat} {r : Int} (h : KI B x o r) : (r = -1 ∧ ∀ j, j < (Rls B).length → (Rls B).getD j [] = x → j ∈ o) ∨ (∃ k : Nat, r = k ∧ MK (Rls B) x o k ∧ k ∈ o) ∨ (∃ k : Nat, r = k ∧ MK (Rls B) x o k ∧ k ∉ o) := by
  rcases h with ⟨rfl, h⟩ | ⟨k, rfl, h⟩
  · exact .inl ⟨rfl, fun j hj e => absurd e (h j hj)⟩
  · by_cases hk : k ∈ o
    · exact .inr (.inl ⟨k, rfl, h, hk⟩)
    · exact .inr (.inr ⟨k, rfl, h, hk⟩)
theorem drop_rls (B : List Rw) (k : Nat) : (Rls B).drop k = Rls (B.drop k) := List.map_drop.symm
theorem KI.next {B : List Rw} {x : List Int} {o : List Nat} {k : Nat} {r : Int} (h : MK (Rls B) x o k) (hk : k ∈ o) (hr : firstI (fun j => decide (x = ((B.drop (k + 1)).getD j dR).L)) (B.drop (k + 1)).length r) (h0 : ¬ r < 0) : KI B x o ((k : Int) + (1 + r)) := by
  rcases hr with ⟨rfl, _⟩ | ⟨m, hm, rfl, h1, h2⟩
  · omega
  · refine .inr ⟨k + (1 + m), by omega, h.step hk (by rw [drop_rls, Rls_len]; exact hm) (by rw [drop_rls, ← Rls_get hm]; exact (of_decide_eq_true h1).symm) fun j hj e => ?_⟩
    rw [drop_rls, ← Rls_get (by omega)] at e
    exact absurd e.symm (of_decide_eq_false (h2 j hj))
theorem KI.stop {B : List Rw} {x : List Int} {o : List Nat} {k : Nat} {r : Int} (h : MK (Rls B) x o k) (hk : k ∈ o) (hr : firstI (fun j => decide (x = ((B.drop (k + 1)).getD j dR).L)) (B.drop (k + 1)).length r) (h0 : r < 0) : ∀ j, j < (Rls B).length → (Rls B).getD j [] = x → j ∈ o := by
  rcases hr with ⟨rfl, hn⟩ | ⟨m, hm, rfl, h1, h2⟩
  · refine h.none hk fun j hj e => ?_
    rw [drop_rls, Rls_len] at hj
    rw [drop_rls, ← Rls_get hj] at e
    exact absurd e.symm (of_decide_eq_false (hn j hj))
  · omega
theorem MI.noR {A B : List Rw} {i : Nat} {o : List Nat} (h : MI (Rls B) (Rls A) i o) (hi : i < A.length) (hn : ∀ j, j < (Rls B).length → (Rls B).getD j [] = (A.getD i dR).L → j ∈ o) : mt (Rls B) (Rls A) B.length A.length = none := by
  rw [Rls_get hi] at hn
  have := h.no hn hi
  rwa [Rls_len] at this
theorem MI.all {A B : List Rw} {i : Nat} {o : List Nat} (h : MI (Rls B) (Rls A) i o) (hi : A.length = i) : mt (Rls B) (Rls A) B.length A.length = some o := by
  have := h.1
  rwa [Rls_len, ← hi] at this
theorem MI.stepR {A B : List Rw} {i k : Nat} {o : List Nat} (h : MI (Rls B) (Rls A) i o) (hi : i < A.length) (hk : MK (Rls B) (A.getD i dR).L o k) (ho : k ∉ o) : MI (Rls B) (Rls A) (i + 1) (o ++ [k]) :=
  h.step (by rw [← Rls_get hi]; exact hk) ho
theorem first_lt {p : Nat → Bool} {n : Nat} {r : Int} (h : firstI p n r) : -1 ≤ r ∧ r < n := by
  rcases h with ⟨rfl, _⟩ | ⟨j, hj, rfl, _⟩ <;> omega
/-! ## Columns -/
def colV (M : List (List Int)) (c : Nat) (p : List Nat) : List Int := p.map fun r => (M.getD r []).getD c 0
def colP (M : List (List Int)) (w : Nat) (p : List Nat) : List (List Int) := (List.range w).map fun c => colV M c p
theorem colP_len (M : List (List Int)) (w : Nat) (p : List Nat) : (colP M w p).length = w := by unfold colP; rw [List.length_map, List.length_range]
theorem colV_len (M : List (List Int)) (c : Nat) (p : List Nat) : (colV M c p).length = p.length := by unfold colV; rw [List.length_map]
theorem colP_get {M : List (List Int)} {w : Nat} {p : List Nat} {c : Nat} (h : c < w) : (colP M w p).getD c [] = colV M c p := by
  unfold colP
  rw [List.getD_eq_getElem?_getD, List.getElem?_map, List.getElem?_range h]; rfl
theorem colP_all {M : List (List Int)} {w : Nat} {p : List Nat} {x : List Int} (h : x ∈ colP M w p) : x.length = p.length := by
  unfold colP at h
  obtain ⟨c, _, rfl⟩ := List.mem_map.1 h
  exact colV_len M c p
theorem rws_replicate (n : Nat) : List.replicate n (.slice none 0 0 : Value) = rws (List.replicate n dR) := by
  rw [rws, List.map_replicate]; rfl
theorem plain_step {n i : Nat} (h : i < n) : (zs (List.range i) ++ List.replicate (n - i) 0).set i (i : Int) = zs (List.range (i + 1)) ++ List.replicate (n - (i + 1)) 0 := by
  rw [List.range_succ, zs_snoc]
  obtain ⟨m, hm⟩ : ∃ m, n - i = m + 1 := ⟨n - i - 1, by omega⟩
  have hl : (zs (List.range i)).length = i := by rw [zs_length, List.length_range]
  rw [hm, show n - (i + 1) = m by omega, List.replicate_succ, List.set_append_right _ _ (by omega), hl, Nat.sub_self, List.append_assoc]
  rfl
theorem count_take {l : List (List Int)} {j : Nat} (h : j < l.length) (x : List Int) : (l.take (j + 1)).count x = (l.take j).count x + if l.getD j [] = x then 1 else 0 := by
  rw [take_succ_getD h, List.count_append, List.count_singleton]
  simp only [beq_iff_eq]
theorem facA_le (l : List (List Int)) (hl : l.length ≤ 6) : ∀ {i}, i ≤ l.length → facA l i ≤ 7 ^ i
  | 0, _ => Nat.le_refl _
  | i + 1, h => by
    rw [facA, Nat.pow_succ]
    have h1 := facA_le l hl (i := i) (by omega)
    have h2 : (l.take i).count (l.getD i []) ≤ (l.take i).length := List.count_le_length
    rw [List.length_take] at h2
    exact Nat.mul_le_mul h1 (by omega)
theorem facA_small (l : List (List Int)) (hl : l.length ≤ 6) {i : Nat} (h : i < l.length) {k : Nat} (hk : k ≤ 7) : facA l i * k ≤ 117649 := by
  have h1 := facA_le l hl (i := i) (by omega)
  have h2 : 7 ^ i ≤ 7 ^ 5 := Nat.pow_le_pow_right (by decide) (by omega)
  exact Nat.le_trans (Nat.mul_le_mul (Nat.le_trans h1 h2) hk) (by decide)
/-- Columns while they are made: the first c are whole, the others empty. -/
structure CO (M : List (List Int)) (w : Nat) (p : List Nat) (c : Nat) (D : List Rw) : Prop where
  len : D.length = w
  ok : ∀ j, j < c → (D.getD j dR).L = colV M j p
  nil : ∀ j, c ≤ j → j < w → D.getD j dR = dR
theorem CO.zero (M : List (List Int)) (w : Nat) (p : List Nat) : CO M w p 0 (List.replicate w dR) :=
  ⟨List.length_replicate, fun j h => absurd h (Nat.not_lt_zero _), fun j _ h => by rw [List.getD_eq_getElem?_getD, List.getElem?_replicate, if_pos h]; rfl⟩
theorem CO.step {M : List (List Int)} {w : Nat} {p : List Nat} {c : Nat} {D : List Rw} (h : CO M w p c D) (hc : c < w) {r : Rw} (hr : r.L = colV M c p) : CO M w p (c + 1) (D.set c r) :=
  ⟨by rw [List.length_set]; exact h.len, fun j hj => by
    rw [getD_setR _ _ _ _ (by rw [h.len]; exact hc)]
    by_cases e : c = j
    · subst e; rw [if_pos rfl]; exact hr
    · rw [if_neg e]; exact h.ok j (by omega), fun j h1 h2 => by
    rw [getD_setR _ _ _ _ (by rw [h.len]; exact hc), if_neg (by omega)]
    exact h.nil j (by omega) h2⟩
theorem CO.done {M : List (List Int)} {w : Nat} {p : List Nat} {c : Nat} {D : List Rw} (h : CO M w p c D) (hc : w ≤ c) : Rls D = colP M w p := by
  refine List.ext_getElem (by rw [Rls_len, h.len, colP_len]) fun j h1 h2 => ?_
  have h3 : j < D.length := by rwa [Rls_len] at h1
  have e1 : (Rls D)[j] = (D.getD j dR).L := by
    rw [List.getElem_map, List.getD_eq_getElem?_getD, List.getElem?_eq_getElem h3]; rfl
  have e2 : (colP M w p)[j] = colV M j p := by
    have h4 := colP_get (M := M) (p := p) (show j < w by rw [h.len] at h3; exact h3)
    rwa [List.getD_eq_getElem?_getD, List.getElem?_eq_getElem h2] at h4
  rw [e1, e2, h.ok j (by rw [h.len] at h3; omega)]
theorem colV_snoc {M : List (List Int)} {c k : Nat} {p : List Nat} (h : k < p.length) : colV M c (p.take (k + 1)) = colV M c (p.take k) ++ [(M.getD (p.getD k 0) []).getD c 0] := by
  unfold colV
  rw [List.take_add_one, List.getElem?_eq_getElem h, List.map_append, List.getD_eq_getElem?_getD (l := p), List.getElem?_eq_getElem h]; rfl
theorem set_set (D : List Rw) (c : Nat) (x y : Rw) : (D.set c x).set c y = D.set c y := List.set_set ..
theorem set_self {M : List (List Int)} {w : Nat} {p : List Nat} {c : Nat} {D : List Rw} (h : CO M w p c D) (hc : c < w) : D.set c dR = D := by
  refine List.ext_getElem (by rw [List.length_set]) fun j h1 h2 => ?_
  rw [List.getElem_set]
  split
  · rename_i e
    subst e
    have := h.nil c (Nat.le_refl _) hc
    rw [List.getD_eq_getElem?_getD, List.getElem?_eq_getElem h2] at this
    exact this.symm
  · rfl
/-! ## Orders visited one after the other, until one says no -/
def foldS {S : Type} (step : S → List Nat → S × Bool) : S → List (List Nat) → S × Bool
  | s, [] => (s, true)
  | s, p :: L => if (step s p).2 = true then foldS step (step s p).1 L else ((step s p).1, false)
theorem foldS_app {S : Type} (step : S → List Nat → S × Bool) : ∀ (A B : List (List Nat)) (s : S), foldS step s (A ++ B) = if (foldS step s A).2 = true then foldS step (foldS step s A).1 B else ((foldS step s A).1, false)
  | [], _, _ => by rw [foldS, if_pos rfl]; rfl
  | p :: A, B, s => by
    rw [List.cons_append, foldS, foldS]
    split
    · exact foldS_app step A B _
    · rw [if_neg Bool.false_ne_true]
theorem foldS_one {S : Type} (step : S → List Nat → S × Bool) (s : S) (p : List Nat) : foldS step s [p] = step s p := by
  rw [foldS]
  split
  · rename_i h; rw [foldS, ← h]
  · rename_i h; rw [← Bool.eq_false_iff.2 h]
/-- What stands behind a beginning and one of the first i numbers. -/
def dfI (n f : Nat) (p : List Nat) (i : Nat) : List (List Nat) := ((List.range i).filter fun v => decide (v ∉ p)).flatMap fun v => dfs n f (p ++ [v])
theorem dfI_all (n f : Nat) (p : List Nat) : dfs n (f + 1) p = dfI n f p n := by
  unfold dfs dfI ext
  rw [List.flatMap_map]
theorem dfI_yes {n f i : Nat} {p : List Nat} (h : i ∉ p) : dfI n f p (i + 1) = dfI n f p i ++ dfs n f (p ++ [i]) := by
  unfold dfI
  rw [List.range_succ, List.filter_append, List.flatMap_append, List.filter_cons_of_pos (by simpa using h)]
  simp
theorem dfI_no {n f i : Nat} {p : List Nat} (h : i ∈ p) : dfI n f p (i + 1) = dfI n f p i := by
  unfold dfI
  rw [List.range_succ, List.filter_append, List.flatMap_append, List.filter_cons_of_neg (by simpa using h)]
  simp
theorem dfI_more {n f : Nat} {p : List Nat} {i j : Nat} (h : i ≤ j) : ∃ B, dfI n f p j = dfI n f p i ++ B := by
  obtain ⟨m, rfl⟩ : ∃ m, j = i + m := ⟨j - i, by omega⟩
  unfold dfI
  rw [List.range_add, List.filter_append, List.flatMap_append]
  exact ⟨_, rfl⟩
/-- Where the visit stands. -/
def VI {S : Type} (step : S → List Nat → S × Bool) (n f : Nat) (p : List Nat) (s0 : S) (i : Nat) (s : S) : Prop := foldS step s0 (dfI n f p i) = (s, true)
theorem VI.zero {S : Type} (step : S → List Nat → S × Bool) (n f : Nat) (p : List Nat) (s0 : S) : VI step n f p s0 0 s0 := rfl
section
variable {S : Type} {step : S → List Nat → S × Bool} {n f : Nat} {p : List Nat} {s0 : S} {i : Nat} {s : S}
theorem VI.skip (h : VI step n f p s0 i s) (hi : i ∈ p) : VI step n f p s0 (i + 1) s := by
  unfold VI at *; rw [dfI_no hi]; exact h
theorem VI.go (h : VI step n f p s0 i s) (hi : i ∉ p) (hs : (foldS step s (dfs n f (p ++ [i]))).2 = true) : VI step n f p s0 (i + 1) (foldS step s (dfs n f (p ++ [i]))).1 := by
  unfold VI at *
  rw [dfI_yes hi, foldS_app, h, if_pos rfl, ← hs]
theorem VI.stop (h : VI step n f p s0 i s) (hi : i ∉ p) (hn : i < n) (hs : (foldS step s (dfs n f (p ++ [i]))).2 = false) : foldS step s0 (dfs n (f + 1) p) = ((foldS step s (dfs n f (p ++ [i]))).1, false) := by
  unfold VI at h
  obtain ⟨B, hB⟩ := dfI_more (n := n) (f := f) (p := p) (show i + 1 ≤ n from hn)
  have h1 : foldS step s0 (dfI n f p (i + 1)) = ((foldS step s (dfs n f (p ++ [i]))).1, false) := by
    rw [dfI_yes hi, foldS_app, h, if_pos rfl, ← hs]
  rw [dfI_all, hB, foldS_app, h1, if_neg Bool.false_ne_true]
theorem VI.done (h : VI step n f p s0 i s) (hi : i = n) : foldS step s0 (dfs n (f + 1) p) = (s, true) := by
  subst hi; rw [dfI_all]; exact h
end
end Go.Fw.Cn

/- Chapter 16: matrices written row by row; the least of these lists; the search of the program finds it. Plain. -/
namespace Go.Fw.Cn
open Go Go.RowKit Go.Fw
def en (M : List (List Int)) (r c : Nat) : Int := (M.getD r []).getD c 0
def wrB (M : List (List Int)) (p q : List Nat) : List Int := p.flatMap fun r => q.map fun c => en M r c
def wr (M : List (List Int)) (p q : List Nat) : List Int := (p.length : Int) :: (q.length : Int) :: wrB M p q
theorem wrB_len (M : List (List Int)) (p q : List Nat) : (wrB M p q).length = p.length * q.length :=
  len_flatMap fun _ _ => List.length_map _
theorem wr_len (M : List (List Int)) (p q : List Nat) : (wr M p q).length = p.length * q.length + 2 := by
  show (wrB M p q).length + 1 + 1 = _; rw [wrB_len]
theorem fl_cols (M : List (List Int)) (q : List Nat) : ∀ p : List Nat, fl p.length (q.map fun c => colV M c p) = wrB M p q
  | [] => rfl
  | r :: p => by
    rw [List.length_cons, fl]
    have h1 : hd (q.map fun c => colV M c (r :: p)) = q.map fun c => en M r c := by
      unfold hd; rw [List.map_map]; rfl
    have h2 : tl (q.map fun c => colV M c (r :: p)) = q.map fun c => colV M c p := by
      unfold tl; rw [List.map_map]; rfl
    rw [h1, h2, fl_cols M q p]; rfl
theorem perm_map_lift {α β : Type} [DecidableEq α] {f : α → β} : ∀ {D : List β} {l : List α}, D.Perm (l.map f) → ∃ q : List α, q.Perm l ∧ q.map f = D
  | [], l, h => by
    have : l = [] := by simpa using h.length_eq.symm
    subst this; exact ⟨[], .refl _, rfl⟩
  | d :: D, l, h => by
    obtain ⟨c, hc, e⟩ := List.mem_map.1 (h.mem_iff.1 List.mem_cons_self)
    have h2 : l.Perm (c :: l.erase c) := List.perm_cons_erase hc
    have h3 := h.trans (h2.map f)
    rw [List.map_cons, e] at h3
    obtain ⟨q, hq, hm⟩ := perm_map_lift (List.Perm.cons_inv h3)
    exact ⟨c :: q, (hq.cons c).trans h2.symm, by rw [List.map_cons, e, hm]⟩
theorem pre_of_perm {n : Nat} {p : List Nat} (h : p.Perm (List.range n)) : Pre n n p :=
  ⟨by rw [h.length_eq, List.length_range], h.nodup_iff.2 List.nodup_range, fun v hv => List.mem_range.1 (h.mem_iff.1 hv)⟩
theorem colP_perm {M : List (List Int)} {w : Nat} {p q : List Nat} (hq : Pre w w q) : (q.map fun c => colV M c p).Perm (colP M w p) := hq.perm.map _
/-- The program's list for an order of the rows. -/
def flP (M : List (List Int)) (w : Nat) (p : List Nat) : List Int := (M.length : Int) :: (w : Int) :: fl M.length (srtL (colP M w p))
theorem flP_mem {M : List (List Int)} {w : Nat} {p : List Nat} (hp : Pre M.length M.length p) : ∃ q, Pre w w q ∧ flP M w p = wr M p q := by
  obtain ⟨q, hq, hm⟩ := perm_map_lift (D := srtL (colP M w p)) (l := List.range w) (f := fun c => colV M c p) (srtL_perm _)
  have hq := pre_of_perm hq
  refine ⟨q, hq, ?_⟩
  unfold flP wr
  rw [← hm, hp.len, hq.len]
  have := fl_cols M q p
  rw [hp.len] at this
  rw [this]
theorem leL_cons {x : Int} {l m : List Int} : leL (x :: l) (x :: m) ↔ leL l m := by unfold leL; rw [cmpLL_cons_iff]
theorem flP_le {M : List (List Int)} {w : Nat} {p q : List Nat} (hp : Pre M.length M.length p) (hq : Pre w w q) : leL (flP M w p) (wr M p q) := by
  unfold flP wr
  rw [hp.len, hq.len, leL_cons, leL_cons]
  have := fl_cols M q p
  rw [hp.len] at this
  rw [← this]
  exact fl_least (colP_perm hq) fun c hc => by rw [colP_all hc, hp.len]
/-- The least list of a matrix. -/
def IsCode (M : List (List Int)) (w : Nat) (B : List Int) : Prop := (∃ p q, Pre M.length M.length p ∧ Pre w w q ∧ B = wr M p q) ∧ ∀ p q, Pre M.length M.length p → Pre w w q → leL B (wr M p q)
theorem IsCode.uniq {M : List (List Int)} {w : Nat} {B B' : List Int} (h : IsCode M w B) (h' : IsCode M w B') : B = B' := by
  obtain ⟨⟨p, q, hp, hq, rfl⟩, h2⟩ := h
  obtain ⟨⟨p', q', hp', hq', rfl⟩, h2'⟩ := h'
  exact (h2 p' q' hp' hq').anti (h2' p q hp hq)
theorem IsCode.len {M : List (List Int)} {w : Nat} {B : List Int} (h : IsCode M w B) : B.length = M.length * w + 2 := by
  obtain ⟨⟨p, q, hp, hq, rfl⟩, _⟩ := h
  rw [wr_len, hp.len, hq.len]
theorem IsCode.ne {M : List (List Int)} {w : Nat} {B : List Int} (h : IsCode M w B) : B ≠ [] := fun e => by have := h.len; rw [e] at this; simp at this
/-- One step of the program's search. -/
def cdS (M : List (List Int)) (w : Nat) (B : List Int) (p : List Nat) : List Int × Bool := (if B = [] ∨ cmpLL (flP M w p) B < 0 then flP M w p else B, true)
def LeastOf (M : List (List Int)) (w : Nat) (L : List (List Nat)) (B : List Int) : Prop := (∃ p ∈ L, B = flP M w p) ∧ ∀ p ∈ L, leL B (flP M w p)
theorem cdS_fold {M : List (List Int)} {w : Nat} : ∀ {L L0 : List (List Nat)} {B : List Int}, LeastOf M w L0 B → ∃ B', foldS (cdS M w) B L = (B', true) ∧ LeastOf M w (L0 ++ L) B'
  | [], L0, B, h => ⟨B, rfl, by rw [List.append_nil]; exact h⟩
  | p :: L, L0, B, h => by
    have key : LeastOf M w (L0 ++ [p]) (cdS M w B p).1 := by
      obtain ⟨⟨p0, h0, e⟩, h1⟩ := h
      unfold cdS
      dsimp only
      split
      · rename_i hc
        have hlt : cmpLL (flP M w p) B < 0 := hc.resolve_left fun e2 => by rw [e2] at e; unfold flP at e; cases e
        refine ⟨⟨p, by simp, rfl⟩, fun q hq => ?_⟩
        rcases List.mem_append.1 hq with hq | hq
        · exact leL.trans (show leL _ B by unfold leL; omega) (h1 q hq)
        · rw [List.mem_singleton.1 hq]; exact leL.rfl
      · rename_i hc
        refine ⟨⟨p0, List.mem_append_left _ h0, e⟩, fun q hq => ?_⟩
        rcases List.mem_append.1 hq with hq | hq
        · exact h1 q hq
        · rw [List.mem_singleton.1 hq]
          unfold leL
          rw [cmpLL_neg]
          have : ¬ cmpLL (flP M w p) B < 0 := fun h => hc (.inr h)
          omega
    obtain ⟨B', h1, h2⟩ := cdS_fold (L := L) key
    refine ⟨B', ?_, by rwa [List.append_assoc] at h2⟩
    rw [foldS, if_pos (show (cdS M w B p).2 = true from rfl)]
    exact h1
theorem ordF_ne (n : Nat) : ∃ p L, ordF n n = p :: L := by
  cases h : ordF n n with
  | nil =>
    have := (mem_ordF (n := n) (k := n) (p := List.range n)).2 (pre_of_perm (.refl _))
    rw [h] at this; cases this
  | cons p L => exact ⟨p, L, rfl⟩
/-- The program's search ends with the least list. -/
theorem cdS_all (M : List (List Int)) (w : Nat) : ∃ B, foldS (cdS M w) [] (ordF M.length M.length) = (B, true) ∧ IsCode M w B := by
  obtain ⟨p, L, h⟩ := ordF_ne M.length
  have h1 : LeastOf M w [p] (cdS M w [] p).1 := by
    have e : (cdS M w [] p).1 = flP M w p := by unfold cdS; rw [if_pos (.inl rfl)]
    rw [e]
    exact ⟨⟨p, by simp, rfl⟩, fun q hq => by rw [List.mem_singleton.1 hq]; exact leL.rfl⟩
  obtain ⟨B, h2, ⟨p0, h0, e⟩, h3⟩ := cdS_fold (L := L) h1
  refine ⟨B, by rw [h, foldS, if_pos (show (cdS M w [] p).2 = true from rfl)]; exact h2, ?_, fun p' q' hp' hq' => ?_⟩
  · have hp0 : Pre M.length M.length p0 := mem_ordF.1 (by rw [h]; simpa using h0)
    obtain ⟨q, hq, e2⟩ := flP_mem (w := w) hp0
    exact ⟨p0, q, hp0, hq, by rw [e, e2]⟩
  · have hm : p' ∈ [p] ++ L := by have := mem_ordF.2 hp'; rw [h] at this; simpa using this
    exact (h3 p' hm).trans (flP_le hp' hq')
/-- Where the reference's search stands. -/
def LTo (M : List (List Int)) (w : Nat) (i k : Nat) (B : List Int) : Prop :=
  (∃ p q, Pre M.length M.length p ∧ Pre w w q ∧ B = wr M p q) ∧ ∀ i' k', i' < (ordF M.length M.length).length → k' < (ordF w w).length → (i' < i ∨ i' = i ∧ k' < k) → leL B (wr M ((ordF M.length M.length).getD i' []) ((ordF w w).getD k' []))
theorem ord_get {n i : Nat} (h : i < (ordF n n).length) : Pre n n ((ordF n n).getD i []) := by
  rw [List.getD_eq_getElem?_getD, List.getElem?_eq_getElem h]
  exact mem_ordF.1 (List.getElem_mem h)
theorem ord_pos (n : Nat) : 0 < (ordF n n).length := by obtain ⟨p, L, h⟩ := ordF_ne n; rw [h]; simp
theorem LTo.zero (M : List (List Int)) (w : Nat) : LTo M w 0 0 (wr M ((ordF M.length M.length).getD 0 []) ((ordF w w).getD 0 [])) :=
  ⟨⟨_, _, ord_get (ord_pos _), ord_get (ord_pos _), rfl⟩, fun _ _ _ _ h => by omega⟩
theorem LTo.row {M : List (List Int)} {w i : Nat} {B : List Int} (h : LTo M w i (ordF w w).length B) : LTo M w (i + 1) 0 B :=
  ⟨h.1, fun i' k' h1 h2 h3 => h.2 i' k' h1 h2 (by omega)⟩
theorem LTo.yes {M : List (List Int)} {w i k : Nat} {B : List Int} (h : LTo M w i k B) (hi : i < (ordF M.length M.length).length) (hk : k < (ordF w w).length) (hc : cmpLL (wr M ((ordF M.length M.length).getD i []) ((ordF w w).getD k [])) B < 0) :
    LTo M w i (k + 1) (wr M ((ordF M.length M.length).getD i []) ((ordF w w).getD k [])) :=
  ⟨⟨_, _, ord_get hi, ord_get hk, rfl⟩, fun i' k' h1 h2 h3 => by
    by_cases e : i' = i ∧ k' = k
    · rw [e.1, e.2]; exact leL.rfl
    · exact leL.trans (show leL _ B by unfold leL; omega) (h.2 i' k' h1 h2 (by omega))⟩
theorem LTo.no {M : List (List Int)} {w i k : Nat} {B : List Int} (h : LTo M w i k B) (hc : ¬ cmpLL (wr M ((ordF M.length M.length).getD i []) ((ordF w w).getD k [])) B < 0) : LTo M w i (k + 1) B :=
  ⟨h.1, fun i' k' h1 h2 h3 => by
    by_cases e : i' = i ∧ k' = k
    · rw [e.1, e.2]; unfold leL; rw [cmpLL_neg]; omega
    · exact h.2 i' k' h1 h2 (by omega)⟩
theorem LTo.done {M : List (List Int)} {w : Nat} {B : List Int} (h : LTo M w (ordF M.length M.length).length 0 B) : IsCode M w B := by
  refine ⟨h.1, fun p q hp hq => ?_⟩
  obtain ⟨i, hi, e1⟩ := List.mem_iff_getElem.1 (mem_ordF.2 hp)
  obtain ⟨k, hk, e2⟩ := List.mem_iff_getElem.1 (mem_ordF.2 hq)
  have := h.2 i k hi hk (.inl hi)
  rw [List.getD_eq_getElem?_getD, List.getElem?_eq_getElem hi, List.getD_eq_getElem?_getD, List.getElem?_eq_getElem hk] at this
  rw [← e1, ← e2]; exact this
theorem IsCode.lto {M : List (List Int)} {w i k : Nat} {B : List Int} (h : LTo M w i k B) : B.length = M.length * w + 2 := by
  obtain ⟨⟨p, q, hp, hq, rfl⟩, _⟩ := h
  rw [wr_len, hp.len, hq.len]
end Go.Fw.Cn

/- Chapter 16: maps of matrices: the first one and their number, as the program and as the reference find them. Plain. -/
namespace Go.Fw.Cn
open Go Go.RowKit Go.Fw
theorem ordF_head (n : Nat) : ∀ k, k ≤ n → (ordF n k).head? = some (List.range k)
  | 0, _ => rfl
  | k + 1, h => by
    have ih := ordF_head n k (by omega)
    obtain ⟨L, hL⟩ : ∃ L, ordF n k = List.range k :: L := by
      cases e : ordF n k with
      | nil => rw [e] at ih; cases ih
      | cons a L => rw [e] at ih; rw [List.head?_cons] at ih; exact ⟨L, by rw [Option.some.inj ih]⟩
    rw [ordF, hL, List.flatMap_cons, List.head?_append]
    have : (ext n (List.range k)).head? = some (List.range k ++ [k]) := by
      unfold ext
      rw [List.head?_map, List.head?_filter, show n = k + (n - k) by omega, List.range_add, List.find?_append, List.find?_eq_none.2 (fun u hu => by simpa using hu), Option.none_or]
      obtain ⟨m, hm⟩ : ∃ m, n - k = m + 1 := ⟨n - k - 1, by omega⟩
      rw [hm, List.range_succ_eq_map, List.map_cons, List.find?_cons_of_pos (by simp)]
      rfl
    rw [this, List.range_succ]; rfl
theorem ordF_first (n : Nat) : (ordF n n).getD 0 [] = List.range n := by
  have := ordF_head n n (Nat.le_refl _)
  cases e : ordF n n with
  | nil => rw [e] at this; cases this
  | cons a L => rw [e] at this; simpa using this
theorem pre_range (n : Nat) : Pre n n (List.range n) := pre_of_perm (.refl _)
theorem hdtl : ∀ {D D' : List (List Int)}, (∀ c ∈ D, c ≠ []) → (∀ c ∈ D', c ≠ []) → hd D = hd D' → tl D = tl D' → D = D'
  | [], [], _, _, _, _ => rfl
  | [], _ :: _, _, _, h, _ => by simp [hd] at h
  | _ :: _, [], _, _, h, _ => by simp [hd] at h
  | a :: D, b :: D', h1, h2, h3, h4 => by
    have e1 : a.headD 0 = b.headD 0 := (List.cons.inj h3).1
    have e2 : a.tail = b.tail := (List.cons.inj h4).1
    have ha := h1 a List.mem_cons_self
    have hb := h2 b List.mem_cons_self
    cases a with
    | nil => exact absurd rfl ha
    | cons x a =>
      cases b with
      | nil => exact absurd rfl hb
      | cons y b =>
        have e1 : x = y := e1
        have e2 : a = b := e2
        rw [e1, e2, hdtl (fun c hc => h1 c (List.mem_cons_of_mem _ hc)) (fun c hc => h2 c (List.mem_cons_of_mem _ hc)) (List.cons.inj h3).2 (List.cons.inj h4).2]
theorem fl_inj : ∀ {h : Nat} {D D' : List (List Int)}, (∀ c ∈ D, c.length = h) → (∀ c ∈ D', c.length = h) → D.length = D'.length → fl h D = fl h D' → D = D'
  | 0, D, D', h1, h2, hl, _ => by
    refine List.ext_getElem hl fun i a b => ?_
    rw [List.eq_nil_of_length_eq_zero (h1 _ (List.getElem_mem a)), List.eq_nil_of_length_eq_zero (h2 _ (List.getElem_mem b))]
  | h + 1, D, D', h1, h2, hl, he => by
    rw [fl, fl] at he
    obtain ⟨e1, e2⟩ := List.append_inj he (by rw [hd_len, hd_len, hl])
    have ht : ∀ {E : List (List Int)}, (∀ c ∈ E, c.length = h + 1) → ∀ c ∈ tl E, c.length = h := fun hE c hc => by
      obtain ⟨x, hx, rfl⟩ := List.mem_map.1 hc
      rw [List.length_tail, hE x hx]; rfl
    exact hdtl (fun c hc e => by have := h1 c hc; rw [e] at this; cases this) (fun c hc e => by have := h2 c hc; rw [e] at this; cases this) e1 (fl_inj (ht h1) (ht h2) (by rw [tl_len, tl_len, hl]) e2)
/-- A map from X to Y: the orders of rows and of columns lead the one matrix to the other one. -/
def mp (X Y : List (List Int)) (w : Nat) (p q : List Nat) : Prop := wr Y p q = wr X (List.range X.length) (List.range w)
instance (X Y : List (List Int)) (w : Nat) (p q : List Nat) : Decidable (mp X Y w p q) := inferInstanceAs (Decidable (_ = _))
section
variable {X Y : List (List Int)} {w : Nat}
theorem colP_range (M : List (List Int)) (w : Nat) (p : List Nat) : colP M w p = (List.range w).map fun c => colV M c p := rfl
theorem mp_good {p q : List Nat} (hp : Pre X.length X.length p) (hq : Pre w w q) : mp X Y w p q ↔ good (colP Y w p) (colP X w (List.range X.length)) q := by
  unfold mp good
  rw [hq.len, show List.take w (colP X w (List.range X.length)) = colP X w (List.range X.length) from List.take_of_length_le (by rw [colP_len]; exact Nat.le_refl _)]
  have hq2 : q.map (fun v => (colP Y w p).getD v []) = q.map fun c => colV Y c p := List.map_congr_left fun v hv => colP_get (hq.lt v hv)
  rw [hq2, colP_range]
  have h1 := fl_cols Y q p
  have h2 := fl_cols X (List.range w) (List.range X.length)
  rw [hp.len] at h1
  rw [List.length_range] at h2
  unfold wr
  rw [hp.len, hq.len, List.length_range, List.length_range, ← h1, ← h2]
  constructor
  · intro h
    refine fl_inj (h := X.length) (fun c hc => ?_) (fun c hc => ?_) (by rw [List.length_map, List.length_map, hq.len, List.length_range]) (List.cons.inj (List.cons.inj h).2).2
    · obtain ⟨v, _, rfl⟩ := List.mem_map.1 hc; rw [colV_len, hp.len]
    · obtain ⟨v, _, rfl⟩ := List.mem_map.1 hc; rw [colV_len, List.length_range]
  · intro h; rw [h]
/-! ## The first map -/
def FM (X Y : List (List Int)) (w : Nat) : Option (List Nat × List Nat) → Prop
  | none => ∀ i k, i < (ordF X.length X.length).length → k < (ordF w w).length → ¬ mp X Y w ((ordF X.length X.length).getD i []) ((ordF w w).getD k [])
  | some (p, q) => ∃ i k, i < (ordF X.length X.length).length ∧ k < (ordF w w).length ∧ p = (ordF X.length X.length).getD i [] ∧ q = (ordF w w).getD k [] ∧ mp X Y w p q ∧
      ∀ i' k', k' < (ordF w w).length → (i' < i ∨ i' = i ∧ k' < k) → ¬ mp X Y w ((ordF X.length X.length).getD i' []) ((ordF w w).getD k' [])
theorem FM.uniq : ∀ {o o' : Option (List Nat × List Nat)}, FM X Y w o → FM X Y w o' → o = o'
  | none, none, _, _ => rfl
  | none, some (p, q), h, ⟨i, k, h1, h2, h3, h4, h5, _⟩ => absurd (by rw [← h3, ← h4]; exact h5) (h i k h1 h2)
  | some (p, q), none, ⟨i, k, h1, h2, h3, h4, h5, _⟩, h => absurd (by rw [← h3, ← h4]; exact h5) (h i k h1 h2)
  | some (p, q), some (p', q'), ⟨i, k, h1, h2, h3, h4, h5, h6⟩, ⟨i', k', h1', h2', h3', h4', h5', h6'⟩ => by
    have e : i = i' ∧ k = k' := by
      rcases Nat.lt_trichotomy i i' with h | h | h
      · exact absurd (by rw [← h3, ← h4]; exact h5) (h6' i k h2 (.inl h))
      · rcases Nat.lt_trichotomy k k' with h' | h' | h'
        · exact absurd (by rw [← h3, ← h4]; exact h5) (h6' i k h2 (.inr ⟨h, h'⟩))
        · exact ⟨h, h'⟩
        · exact absurd (by rw [← h3', ← h4']; exact h5') (h6 i' k' h2' (.inr ⟨h.symm, h'⟩))
      · exact absurd (by rw [← h3', ← h4']; exact h5') (h6 i' k' h2' (.inl h))
    rw [h3, h4, h3', h4', e.1, e.2]
theorem FM.mp {p q : List Nat} (h : FM X Y w (some (p, q))) : Pre X.length X.length p ∧ Pre w w q ∧ mp X Y w p q := by
  obtain ⟨i, k, h1, h2, rfl, rfl, h5, _⟩ := h
  exact ⟨ord_get h1, ord_get h2, h5⟩
theorem FM.none_iff {o : Option (List Nat × List Nat)} (h : FM X Y w o) : o = none ↔ ∀ p q, Pre X.length X.length p → Pre w w q → ¬ Cn.mp X Y w p q := by
  constructor
  · rintro rfl p q hp hq hm
    obtain ⟨i, hi, e1⟩ := List.mem_iff_getElem.1 (mem_ordF.2 hp)
    obtain ⟨k, hk, e2⟩ := List.mem_iff_getElem.1 (mem_ordF.2 hq)
    refine h i k hi hk ?_
    rw [List.getD_eq_getElem?_getD, List.getElem?_eq_getElem hi, List.getD_eq_getElem?_getD, List.getElem?_eq_getElem hk]
    rw [← e1, ← e2] at hm; exact hm
  · intro h2
    cases o with
    | none => rfl
    | some x =>
      obtain ⟨p, q⟩ := x
      obtain ⟨a, b, c⟩ := h.mp
      exact absurd c (h2 p q a b)
/-- One step of the program's search for a map. -/
def mpS (X Y : List (List Int)) (w : Nat) (s : Option (List Nat × List Nat)) (p : List Nat) : Option (List Nat × List Nat) × Bool :=
  match mt (colP Y w p) (colP X w (List.range X.length)) w w with
  | some q => (some (p, q), false)
  | none => (s, true)
theorem mt_G {p : List Nat} : mt (colP Y w p) (colP X w (List.range X.length)) w w = (G (colP Y w p) (colP X w (List.range X.length)) w w).head? :=
  mt_head (colP_len _ _ _) (by rw [colP_len]; exact Nat.le_refl _)
theorem G_mp {p : List Nat} (hp : Pre X.length X.length p) : G (colP Y w p) (colP X w (List.range X.length)) w w = (ordF w w).filter fun q => decide (mp X Y w p q) := by
  rw [G_eq (by rw [colP_len]; exact Nat.le_refl _)]
  exact List.filter_congr fun q hq => decide_eq_decide.2 (mp_good hp (mem_ordF.1 hq)).symm
theorem mt_none {p : List Nat} (hp : Pre X.length X.length p) (h : mt (colP Y w p) (colP X w (List.range X.length)) w w = none) : ∀ k, k < (ordF w w).length → ¬ mp X Y w p ((ordF w w).getD k []) := by
  rw [mt_G, G_mp hp, List.head?_eq_none_iff, List.filter_eq_nil_iff] at h
  intro k hk hm
  rw [List.getD_eq_getElem?_getD, List.getElem?_eq_getElem hk] at hm
  exact h _ (List.getElem_mem hk) (decide_eq_true hm)
theorem find_first {α : Type} {p : α → Bool} : ∀ {l : List α} {a : α} (d : α), l.find? p = some a → ∃ k, k < l.length ∧ l.getD k d = a ∧ p a = true ∧ ∀ j, j < k → p (l.getD j d) = false
  | [], _, _, h => by cases h
  | b :: l, a, d, h => by
    rw [List.find?_cons] at h
    split at h
    · rename_i hb
      cases h
      exact ⟨0, by simp, rfl, hb, fun j hj => absurd hj (Nat.not_lt_zero _)⟩
    · rename_i hb
      obtain ⟨k, h1, h2, h3, h4⟩ := find_first d h
      refine ⟨k + 1, by simpa using h1, by simpa using h2, h3, fun j hj => ?_⟩
      cases j with
      | zero => exact hb
      | succ j => simpa using h4 j (by omega)
theorem mt_some {p q : List Nat} (hp : Pre X.length X.length p) (h : mt (colP Y w p) (colP X w (List.range X.length)) w w = some q) : ∃ k, k < (ordF w w).length ∧ q = (ordF w w).getD k [] ∧ mp X Y w p q ∧ ∀ k', k' < k → ¬ mp X Y w p ((ordF w w).getD k' []) := by
  rw [mt_G, G_mp hp, List.head?_filter] at h
  obtain ⟨k, h1, h2, h3, h4⟩ := find_first [] h
  exact ⟨k, h1, h2.symm, of_decide_eq_true h3, fun k' hk' => of_decide_eq_false (h4 k' hk')⟩
theorem mpS_fold : ∀ {L L0 : List (List Nat)}, L0 ++ L = ordF X.length X.length → (∀ i k, i < L0.length → k < (ordF w w).length → ¬ mp X Y w ((ordF X.length X.length).getD i []) ((ordF w w).getD k [])) →
    ∃ o, foldS (mpS X Y w) none L = (o, o.isNone) ∧ FM X Y w o
  | [], L0, e, h => ⟨none, rfl, fun i k hi hk => h i k (by rw [← e, List.append_nil] at hi; exact hi) hk⟩
  | p :: L, L0, e, h => by
    have hi : L0.length < (ordF X.length X.length).length := by rw [← e]; simp
    have hp0 : (ordF X.length X.length).getD L0.length [] = p := by rw [← e]; simp
    have hp : Pre X.length X.length p := by rw [← hp0]; exact ord_get hi
    cases hm : mt (colP Y w p) (colP X w (List.range X.length)) w w with
    | none =>
      have hs : mpS X Y w none p = (none, true) := by unfold mpS; rw [hm]
      obtain ⟨o, h1, h2⟩ := mpS_fold (L := L) (L0 := L0 ++ [p]) (by rw [← e]; simp) fun i k hi hk => by
        rcases Nat.lt_or_ge i L0.length with h3 | h3
        · exact h i k h3 hk
        · have : i = L0.length := by rw [List.length_append] at hi; simp at hi; omega
          rw [this, hp0]; exact mt_none hp hm k hk
      exact ⟨o, by rw [foldS, hs, if_pos rfl]; exact h1, h2⟩
    | some q =>
      have hs : mpS X Y w none p = (some (p, q), false) := by unfold mpS; rw [hm]
      obtain ⟨k, h1, h2, h3, h4⟩ := mt_some hp hm
      refine ⟨some (p, q), by rw [foldS, hs, if_neg Bool.false_ne_true]; rfl, L0.length, k, hi, h1, hp0.symm, h2, h3, fun i' k' hk' hh => ?_⟩
      rcases hh with hh | ⟨rfl, hh⟩
      · exact h i' k' hh hk'
      · rw [hp0]; exact h4 k' hh
theorem mpS_all (X Y : List (List Int)) (w : Nat) : ∃ o, foldS (mpS X Y w) none (ordF X.length X.length) = (o, o.isNone) ∧ FM X Y w o :=
  mpS_fold (L0 := []) rfl fun i _ hi => absurd hi (Nat.not_lt_zero i)
/-! ## How many -/
def nmP (X Y : List (List Int)) (w : Nat) (p : List Nat) : Nat := ((ordF w w).filter fun q => decide (mp X Y w p q)).length
/-- The number of maps. -/
def nM (X Y : List (List Int)) (w : Nat) : Nat := ((ordF X.length X.length).map (nmP X Y w)).sum
def syS (X : List (List Int)) (w : Nat) (n : Nat) (p : List Nat) : Nat × Bool :=
  (if (mt (colP X w p) (colP X w (List.range X.length)) w w).isSome then n + facA (colP X w (List.range X.length)) (colP X w (List.range X.length)).length else n, true)
theorem facA_pos (l : List (List Int)) : ∀ i, 0 < facA l i
  | 0 => Nat.one_pos
  | i + 1 => Nat.mul_pos (facA_pos l i) (by omega)
theorem syS_eq {p : List Nat} (hp : Pre X.length X.length p) (n : Nat) : syS X w n p = (n + nmP X X w p, true) := by
  unfold syS nmP
  have h1 := mt_G (X := X) (Y := X) (w := w) (p := p)
  have h2 := G_mp (X := X) (Y := X) (w := w) hp
  rw [← h2]
  by_cases hc : (colP X w p).Perm (colP X w (List.range X.length))
  · have h3 := G_all (n := w) (colP_len X w p) hc
    rw [colP_len] at h3
    have h4 := facA_pos (colP X w (List.range X.length)) w
    have h5 : (G (colP X w p) (colP X w (List.range X.length)) w w).head?.isSome = true := by
      cases e : G (colP X w p) (colP X w (List.range X.length)) w w with
      | nil => rw [e] at h3; simp at h3; omega
      | cons a l => rfl
    rw [h1, if_pos h5, colP_len, h3]
  · have h3 : G (colP X w p) (colP X w (List.range X.length)) w w = [] := by
      cases e : G (colP X w p) (colP X w (List.range X.length)) w w with
      | nil => rfl
      | cons q l => exact absurd (G_perm (n := w) (p := q) (colP_len _ _ _) (colP_len _ _ _) (by rw [colP_len, e]; exact List.mem_cons_self)) hc
    rw [h1, h3]; rfl
theorem syS_fold : ∀ {L : List (List Nat)} (n : Nat), (∀ p ∈ L, Pre X.length X.length p) → foldS (syS X w) n L = (n + (L.map (nmP X X w)).sum, true)
  | [], _, _ => rfl
  | p :: L, n, h => by
    rw [foldS, syS_eq (h p List.mem_cons_self), if_pos rfl, syS_fold _ fun q hq => h q (List.mem_cons_of_mem _ hq), List.map_cons, List.sum_cons, Nat.add_assoc]
theorem syS_all (X : List (List Int)) (w : Nat) : foldS (syS X w) 0 (ordF X.length X.length) = (nM X X w, true) := by
  rw [syS_fold 0 fun p hp => mem_ordF.1 hp, Nat.zero_add]; rfl
/-- Where the reference stands: what it has counted, and the first map of what it has seen. -/
def nTo (X Y : List (List Int)) (w i k : Nat) : Nat := (((ordF X.length X.length).take i).map (nmP X Y w)).sum + (((ordF w w).take k).filter fun q => decide (mp X Y w ((ordF X.length X.length).getD i []) q)).length
theorem nTo_zero : nTo X Y w 0 0 = 0 := by unfold nTo; simp
theorem takeL_succ {l : List (List Nat)} {k : Nat} (h : k < l.length) : l.take (k + 1) = l.take k ++ [l.getD k []] := by
  rw [List.take_add_one, List.getD_eq_getElem?_getD, List.getElem?_eq_getElem h]; rfl
theorem nTo_step {i k : Nat} (hk : k < (ordF w w).length) : nTo X Y w i (k + 1) = nTo X Y w i k + if mp X Y w ((ordF X.length X.length).getD i []) ((ordF w w).getD k []) then 1 else 0 := by
  unfold nTo
  rw [takeL_succ hk, List.filter_append, List.length_append, ← Nat.add_assoc]
  congr 1
  by_cases hm : mp X Y w ((ordF X.length X.length).getD i []) ((ordF w w).getD k [])
  · rw [if_pos hm, List.filter_cons_of_pos (p := fun q => decide (mp X Y w ((ordF X.length X.length).getD i []) q)) (decide_eq_true hm)]; rfl
  · rw [if_neg hm, List.filter_cons_of_neg (p := fun q => decide (mp X Y w ((ordF X.length X.length).getD i []) q)) (by simpa using hm)]; rfl
theorem nTo_row {i : Nat} (hi : i < (ordF X.length X.length).length) : nTo X Y w (i + 1) 0 = nTo X Y w i (ordF w w).length := by
  unfold nTo
  rw [takeL_succ hi, List.map_append, List.sum_append, List.take_length, List.take_zero]
  simp [nmP]
theorem nTo_all : nTo X Y w (ordF X.length X.length).length 0 = nM X Y w := by
  unfold nTo nM
  rw [List.take_length, List.take_zero]; simp
def FTo (X Y : List (List Int)) (w i k : Nat) : Option (List Nat × List Nat) → Prop
  | none => ∀ i' k', i' < (ordF X.length X.length).length → k' < (ordF w w).length → (i' < i ∨ i' = i ∧ k' < k) → ¬ mp X Y w ((ordF X.length X.length).getD i' []) ((ordF w w).getD k' [])
  | some x => FM X Y w (some x)
theorem FTo.zero : FTo X Y w 0 0 none := fun _ _ _ _ h => by omega
theorem FTo.no {i k : Nat} {o : Option (List Nat × List Nat)} (h : FTo X Y w i k o) (hm : ¬ mp X Y w ((ordF X.length X.length).getD i []) ((ordF w w).getD k [])) : FTo X Y w i (k + 1) o := by
  cases o with
  | some x => exact h
  | none =>
    intro i' k' h1 h2 h3
    by_cases e : i' = i ∧ k' = k
    · rw [e.1, e.2]; exact hm
    · exact h i' k' h1 h2 (by omega)
theorem FTo.yes {i k : Nat} (h : FTo X Y w i k none) (hi : i < (ordF X.length X.length).length) (hk : k < (ordF w w).length) (hm : mp X Y w ((ordF X.length X.length).getD i []) ((ordF w w).getD k [])) :
    FTo X Y w i (k + 1) (some ((ordF X.length X.length).getD i [], (ordF w w).getD k [])) :=
  ⟨i, k, hi, hk, rfl, rfl, hm, fun i' k' h1 h2 => h i' k' (by omega) h1 h2⟩
theorem FTo.keep {i k i' k' : Nat} {x : List Nat × List Nat} (h : FTo X Y w i k (some x)) : FTo X Y w i' k' (some x) := h
theorem FTo.row {i : Nat} {o : Option (List Nat × List Nat)} (h : FTo X Y w i (ordF w w).length o) : FTo X Y w (i + 1) 0 o := by
  cases o with
  | some x => exact h
  | none => exact fun i' k' h1 h2 h3 => h i' k' h1 h2 (by omega)
theorem FTo.done {o : Option (List Nat × List Nat)} (h : FTo X Y w (ordF X.length X.length).length 0 o) : FM X Y w o := by
  cases o with
  | some x => exact h
  | none => exact fun i k hi hk => h i k hi hk (.inl hi)
theorem sum_zero : ∀ {l : List Nat}, (∀ x ∈ l, x = 0) → l.sum = 0
  | [], _ => rfl
  | a :: l, h => by rw [List.sum_cons, h a List.mem_cons_self, sum_zero fun x hx => h x (List.mem_cons_of_mem _ hx)]
theorem FTo.cnt {i k : Nat} {o : Option (List Nat × List Nat)} (h : FTo X Y w i k o) (hi : i < (ordF X.length X.length).length) (hk : k ≤ (ordF w w).length) (ho : ∀ x, o = some x → 0 < nTo X Y w i k) : nTo X Y w i k = 0 ↔ o = none := by
  cases o with
  | some x => exact ⟨fun e => absurd e (by have := ho x rfl; omega), fun e => by cases e⟩
  | none =>
    refine ⟨fun _ => rfl, fun _ => ?_⟩
    unfold nTo
    have h1 : (((ordF X.length X.length).take i).map (nmP X Y w)).sum = 0 := by
      refine sum_zero fun x hx => ?_
      obtain ⟨p, hp, rfl⟩ := List.mem_map.1 hx
      obtain ⟨j, hj, e⟩ := List.mem_iff_getElem.1 hp
      rw [List.length_take] at hj
      unfold nmP
      rw [List.length_eq_zero_iff, List.filter_eq_nil_iff]
      intro q hq hd
      obtain ⟨l, hl, e2⟩ := List.mem_iff_getElem.1 hq
      refine h j l (by omega) hl (.inl (by omega)) ?_
      rw [List.getD_eq_getElem?_getD, List.getElem?_eq_getElem (by omega), List.getD_eq_getElem?_getD, List.getElem?_eq_getElem hl]
      rw [List.getElem_take] at e
      rw [← e, ← e2] at hd
      exact of_decide_eq_true hd
    rw [h1, Nat.zero_add, List.length_eq_zero_iff, List.filter_eq_nil_iff]
    intro q hq hd
    obtain ⟨l, hl, e2⟩ := List.mem_iff_getElem.1 hq
    rw [List.length_take] at hl
    refine h i l hi (by omega) (.inr ⟨rfl, by omega⟩) ?_
    rw [List.getD_eq_getElem?_getD (l := ordF w w), List.getElem?_eq_getElem (show l < (ordF w w).length by omega)]
    rw [List.getElem_take] at e2
    rw [← e2] at hd
    exact of_decide_eq_true hd
end
end Go.Fw.Cn

/- Chapter 16: rows in memory that are made one after the other. -/
namespace Go.Fw.Cn
open Go Go.RowKit Go.Fw
theorem rws_set_get {D : List Rw} {c : Nat} {r : Rw} (h : c < D.length) : (rws (D.set c r))[c]? = some r.v := by
  rw [List.getElem?_map, List.getElem?_set_self h]; rfl
theorem colV_zero (M : List (List Int)) (c : Nat) (p : List Nat) : colV M c (p.take 0) = [] := by rw [List.take_zero]; rfl
theorem getN_mem {l : List Nat} {k : Nat} (h : k < l.length) : l.getD k 0 ∈ l := by
  rw [List.getD_eq_getElem?_getD, List.getElem?_eq_getElem h]; exact List.getElem_mem h
section
variable {P : Program} {Q : Exit → Act → World → Prop} {w0 : Ctx} {σ : List Res} {φ : List (Bool × VP)} {fr : Go.Fw.Fr} {c : Code} {f : Bool}
theorem JC_rwRep (n : Nat) (k : JC P c Q w0 σ ((true, vRws (List.replicate n dR)) :: φ) fr) : JC P c Q w0 σ φ fr := JC_addView (p := vRws (List.replicate n dR)) (f := true) (fun _ _ r hr => by
  rw [List.eq_of_mem_replicate hr]
  exact fun j u hj => by cases hj) k
theorem updL_self {α : Type} : ∀ {l : List α} {i : Nat} {r : α}, Nth l i r → updL l i r = l
  | [], _, _, h => h.elim
  | _ :: _, 0, _, h => by rw [updL, show _ = _ from h]
  | a :: l, i + 1, r, h => by rw [updL, updL_self (l := l) (i := i) h]
theorem JC_ownEq {ad : Option Addr} {n cap sz : Nat} {E : TypeId} {xs : List Value} (i : Nat) (xs' : List Value) (h : Nth σ i (osl ad n cap E sz xs)) (e : xs' = xs) (k : JC P c Q w0 (updL σ i (osl ad n cap E sz xs')) φ fr) : JC P c Q w0 σ φ fr := by
  subst e
  rwa [updL_self h] at k
theorem JC_rwSet {D : List Rw} (i : Nat) (r : Rw) (h : (f, vRws D) ∈ φ) (h2 : (f, vCells r.ad (i64s r.L)) ∈ φ) (k : JC P c Q w0 σ ((f, vRws (D.set i r)) :: φ) fr) : JC P c Q w0 σ φ fr := JC_addView (p := vRws (D.set i r)) (f := f) (fun _ s x hx => by
  rcases List.mem_or_eq_of_mem_set hx with hx | rfl
  · exact s.views _ h x hx
  · exact s.views _ h2) k
end
end Go.Fw.Cn

/- Chapter 16: what the visit of all orders keeps; numbers that wrap. Plain. -/
namespace Go.Fw.Cn
open Go Go.RowKit Go.Fw
/-- A number in the memory of 64 bits. -/
def wr64 (n : Nat) : Int := IntKind.i64.wrap (n : Int)
theorem wr64_add (n m : Nat) : IntKind.i64.wrap (wr64 n + (m : Int)) = wr64 (n + m) := by
  have h : ∀ x : Int, IntKind.i64.wrap x = if x % 18446744073709551616 ≥ 9223372036854775808 then x % 18446744073709551616 - 18446744073709551616 else x % 18446744073709551616 := fun x => by
    unfold IntKind.wrap
    rw [show IntKind.i64.bits = 64 from rfl, show IntKind.i64.signed = true from rfl, show (64 - 1 : Nat) = 63 from rfl, show (2 : Int) ^ 64 = 18446744073709551616 by decide, show (2 : Int) ^ 63 = 9223372036854775808 by decide]
    simp only [Bool.true_and, decide_eq_true_eq]
  unfold wr64
  rw [h, h, h, Int.natCast_add]
  split <;> split <;> split <;> omega
theorem wr64_small {n : Nat} (h : n < 9223372036854775808) : wr64 n = n := by
  unfold wr64
  exact IntWalk.i64_in _ (by omega)
theorem zs_short (p : List Nat) (v : Nat) : (i64s (zs (p ++ [v]))).take ((zs p).length * 1) = i64s (zs p) := by
  rw [Nat.mul_one, zs_length, zs_snoc]
  unfold i64s
  rw [List.map_append, List.take_append_of_le_length (by rw [List.length_map, zs_length]; exact Nat.le_refl _), List.take_of_length_le (by rw [List.length_map, zs_length]; exact Nat.le_refl _)]
theorem Pre.lt_of {n k : Nat} {p : List Nat} (h : Pre n k p) : ∀ v ∈ p, v < n := h.lt
/-- The rows of what are the columns. -/
theorem colR_len {D : List Rw} {M : List (List Int)} {w : Nat} {p : List Nat} (h : Rls D = colP M w p) {r : Rw} (hr : r ∈ D) : r.L.length = p.length := by
  have : r.L ∈ Rls D := List.mem_map.2 ⟨r, hr, rfl⟩
  rw [h] at this
  exact colP_all this
theorem dfs_zero (n : Nat) (p : List Nat) : dfs n 0 p = [p] := rfl
theorem sy_yes {A Mr : List Rw} {w n : Nat} {p o : List Nat} {ok : Bool} (hA : Rls A = colP (Rls Mr) w (List.range Mr.length)) (h : mt (colP (Rls Mr) w p) (colP (Rls Mr) w (List.range Mr.length)) w w = if ok = true then some o else none) (hk : ok = true) : syS (Rls Mr) w n p = (n + facA (Rls A) A.length, true) := by
  subst hk
  unfold syS
  rw [Rls_len, h, if_pos rfl, if_pos (show (some o).isSome = true from rfl), ← hA, Rls_len]
theorem sy_no {Mr : List Rw} {w n : Nat} {p o : List Nat} {ok : Bool} (h : mt (colP (Rls Mr) w p) (colP (Rls Mr) w (List.range Mr.length)) w w = if ok = true then some o else none) (hk : ok = false) : syS (Rls Mr) w n p = (n, true) := by
  subst hk
  unfold syS
  rw [Rls_len, h, if_neg Bool.false_ne_true, if_neg (show ¬ (none : Option (List Nat)).isSome = true from Bool.false_ne_true)]
/-! ## The list of a matrix, made row by row -/
theorem fl_succ : ∀ (r : Nat) (D : List (List Int)), fl (r + 1) D = fl r D ++ D.map fun c => c.getD r 0
  | 0, D => by
    rw [fl, fl, fl, List.append_nil, List.nil_append]
    unfold hd
    exact List.map_congr_left fun c _ => by cases c <;> rfl
  | r + 1, D => by
    rw [fl, fl_succ r (tl D), fl, List.append_assoc]
    congr 2
    unfold tl
    rw [List.map_map]
    exact List.map_congr_left fun c _ => by cases c <;> simp
/-- The first r rows and c numbers of the next one. -/
def flI (D : List (List Int)) (r c : Nat) : List Int := fl r D ++ (D.take c).map fun x => x.getD r 0
theorem flI_zero (D : List (List Int)) (r : Nat) : flI D r 0 = fl r D := by unfold flI; rw [List.take_zero, List.map_nil, List.append_nil]
theorem flI_all {D : List (List Int)} {r c : Nat} (h : c = D.length) : flI D r c = fl (r + 1) D := by unfold flI; rw [h, List.take_length, fl_succ]
theorem flI_step {D : List (List Int)} {r c : Nat} (h : c < D.length) : flI D r (c + 1) = flI D r c ++ [(D.getD c []).getD r 0] := by
  unfold flI; rw [take_succ_getD h, List.map_append, List.append_assoc]; rfl
theorem fl_len : ∀ (r : Nat) (D : List (List Int)), (fl r D).length = r * D.length
  | 0, _ => by rw [fl, Nat.zero_mul]; rfl
  | r + 1, D => by rw [fl, List.length_append, hd_len, fl_len r, tl_len, Nat.succ_mul, Nat.add_comm]
theorem flI_len {D : List (List Int)} {r c : Nat} (h : c ≤ D.length) : (flI D r c).length = r * D.length + c := by
  unfold flI; rw [List.length_append, fl_len, List.length_map, List.length_take, Nat.min_eq_left h]
theorem cd_yes {M : List (List Int)} {w : Nat} {B : List Int} {p : List Nat} (h : B = [] ∨ cmpLL (flP M w p) B < 0) : cdS M w B p = (flP M w p, true) := by unfold cdS; rw [if_pos h]
theorem cd_no {M : List (List Int)} {w : Nat} {B : List Int} {p : List Nat} (h1 : B ≠ []) (h : ¬ cmpLL (flP M w p) B < 0) : cdS M w B p = (B, true) := by unfold cdS; rw [if_neg (fun c => c.elim h1 h)]
/-! ## The map that has been found -/
def m1 (o : Option (List Nat × List Nat)) : List Nat := (o.map (·.1)).getD []
def m2 (o : Option (List Nat × List Nat)) : List Nat := (o.map (·.2)).getD []
def mErr (o : Option (List Nat × List Nat)) : Int := if o.isNone then 7 else 0
theorem mp_yes {A Mr : List Rw} {X : List (List Int)} {w : Nat} {p q : List Nat} {ok : Bool} {o : Option (List Nat × List Nat)} (hA : Rls A = colP X w (List.range X.length)) (h : mt (colP (Rls Mr) w p) (Rls A) w w = if ok = true then some q else none) (hk : ok = true) : mpS X (Rls Mr) w o p = (some (p, q), !ok) := by
  subst hk
  unfold mpS
  rw [← hA, h, if_pos rfl]; rfl
theorem mp_no {A Mr : List Rw} {X : List (List Int)} {w : Nat} {p q : List Nat} {ok : Bool} {o : Option (List Nat × List Nat)} (hA : Rls A = colP X w (List.range X.length)) (h : mt (colP (Rls Mr) w p) (Rls A) w w = if ok = true then some q else none) (hk : ok = false) : mpS X (Rls Mr) w o p = (o, !ok) := by
  subst hk
  unfold mpS
  rw [← hA, h, if_neg Bool.false_ne_true]; rfl
end Go.Fw.Cn
