/- Chapter 48: lists of pairs: their cells, their order, what is inserted, what is left without doubles. Plain. -/
import Derived.Test.YtjdojhhngganeaaGreatDoorFwC
namespace Go.Fw
open Go Go.RowKit

abbrev Pr := Int × Int
abbrev pc (p : Pr) : List Value := [.int .i64 p.1, .int .i64 p.2]
def pcells (l : List Pr) : List Value := l.flatMap pc
abbrev pv (p : Pr) : Value := .agg #[.int .i64 p.1, .int .i64 p.2]
def dP : Pr := (0, 0)
theorem pcells_cons (x : Pr) (l : List Pr) : pcells (x :: l) = .int .i64 x.1 :: .int .i64 x.2 :: pcells l := rfl
theorem pcells_length : ∀ l : List Pr, (pcells l).length = l.length * 2
  | [] => rfl
  | x :: l => by rw [pcells_cons, List.length_cons, List.length_cons, pcells_length l, List.length_cons]; omega
theorem pcells_app (l m : List Pr) : pcells (l ++ m) = pcells l ++ pcells m := by unfold pcells; rw [List.flatMap_append]
theorem pcells_snoc (l : List Pr) (x : Pr) : pcells l ++ pc x = pcells (l ++ [x]) := by rw [pcells_app]; rfl
theorem pcells_get : ∀ {l : List Pr} {j : Nat} {x : Pr}, l[j]? = some x → ∀ m, m < 2 → (pcells l)[j * 2 + m]? = (pc x)[m]?
  | [], _, _, h, _, _ => by simp at h
  | y :: l, 0, x, h, m, hm => by
    simp at h
    subst h
    rw [pcells_cons]
    rcases (show m = 0 ∨ m = 1 by omega) with rfl | rfl <;> rfl
  | y :: l, j + 1, x, h, m, hm => by
    rw [pcells_cons, show (j + 1) * 2 + m = (j * 2 + m) + 1 + 1 from by omega, List.getElem?_cons_succ, List.getElem?_cons_succ]
    exact pcells_get (by simpa using h) m hm
theorem getD_some {l : List Pr} {j : Nat} (h : j < l.length) : l[j]? = some (l.getD j dP) := by
  rw [List.getD_eq_getElem?_getD, List.getElem?_eq_getElem h]; rfl
theorem getD_mem2 {l : List Pr} {j : Nat} (h : j < l.length) : l.getD j dP ∈ l := List.mem_of_getElem? (getD_some h)
theorem pcells_getA {l : List Pr} {j : Nat} (h : j < l.length) (m : Nat) (v : Value) (hv : (pc (l.getD j dP))[m]? = some v) : (pcells l)[j * 2 + m]? = some v := by
  have hm : m < 2 := by have := (List.getElem?_eq_some_iff.1 hv).1; simpa using this
  rw [pcells_get (getD_some h) m hm, hv]
theorem pcells_one {l : List Pr} {j : Nat} (h : j < l.length) : (pcells l)[j * 2 + 0]? = some (.int .i64 (l.getD j dP).1) ∧ (pcells l)[j * 2 + 1]? = some (.int .i64 (l.getD j dP).2) := ⟨pcells_getA h 0 _ rfl, pcells_getA h 1 _ rfl⟩
theorem pcells_set : ∀ {l : List Pr} {j : Nat} (x : Pr), j < l.length → ((pcells l).set (j * 2) (.int .i64 x.1)).set (j * 2 + 1) (.int .i64 x.2) = pcells (l.set j x)
  | [], _, _, h => by simp at h
  | y :: l, 0, x, _ => rfl
  | y :: l, j + 1, x, h => by
    have ih := pcells_set (l := l) (j := j) x (by simpa using h)
    rw [pcells_cons, show (j + 1) * 2 = j * 2 + 1 + 1 from by omega]
    simp only [List.set_cons_succ]
    rw [ih]
    rfl
theorem pcells_setA {l : List Pr} {j : Nat} (x : Pr) (h : j < l.length) : setAll (pcells l) (j * 2) (pc x) = pcells (l.set j x) := by
  rw [← pcells_set x h]
  simp only [setAll, updL_set]
theorem pcells_drop : ∀ (l : List Pr) (k : Nat), (pcells l).drop (k * 2) = pcells (l.drop k)
  | l, 0 => by simp
  | [], k + 1 => by simp [pcells]
  | x :: l, k + 1 => by
    rw [pcells_cons, show (k + 1) * 2 = k * 2 + 1 + 1 from by omega, List.drop_succ_cons, List.drop_succ_cons, pcells_drop l k]; rfl
theorem pcells_take : ∀ (l : List Pr) (k : Nat), (pcells l).take (k * 2) = pcells (l.take k)
  | l, 0 => by simp [pcells]
  | [], k + 1 => by simp [pcells]
  | x :: l, k + 1 => by
    rw [pcells_cons, show (k + 1) * 2 = k * 2 + 1 + 1 from by omega, List.take_succ_cons, List.take_succ_cons, pcells_take l k]; rfl
theorem allOne_pc (x : Pr) : AllOne (pc x) := AllOne.cons rfl (AllOne.cons rfl AllOne.nil)
/-! ## The order -/
abbrev ltP (p q : Pr) : Prop := p.1 < q.1 ∨ p.1 = q.1 ∧ p.2 < q.2
theorem ltP.irr (p : Pr) : ¬ ltP p p := by rintro (h | h) <;> omega
theorem ltP.trans {p q r : Pr} (h : ltP p q) (k : ltP q r) : ltP p r := by
  rcases h with h | ⟨h, h'⟩ <;> rcases k with k | ⟨k, k'⟩
  · exact .inl (by omega)
  · exact .inl (by omega)
  · exact .inl (by omega)
  · exact .inr ⟨by omega, by omega⟩
theorem ltP.tri (p q : Pr) : ltP p q ∨ p = q ∨ ltP q p := by
  obtain ⟨a, b⟩ := p
  obtain ⟨c, d⟩ := q
  rcases Int.lt_trichotomy a c with h | h | h
  · exact .inl (.inl h)
  · rcases Int.lt_trichotomy b d with k | k | k
    · exact .inl (.inr ⟨h, k⟩)
    · exact .inr (.inl (by rw [h, k]))
    · exact .inr (.inr (.inr ⟨h.symm, k⟩))
  · exact .inr (.inr (.inl h))
theorem ltP.asymm {p q : Pr} (h : ltP p q) : ¬ ltP q p := fun k => ltP.irr p (h.trans k)
def cmpI (a b : Int) : Int := if a < b then -1 else if b < a then 1 else 0
def cmpPr (p q : Pr) : Int := if cmpI p.1 q.1 ≠ 0 then cmpI p.1 q.1 else if cmpI p.2 q.2 ≠ 0 then cmpI p.2 q.2 else 0
theorem cmpI_neg {a b : Int} : cmpI a b < 0 ↔ a < b := by unfold cmpI; split <;> (try split) <;> omega
theorem cmpI_zero {a b : Int} : cmpI a b = 0 ↔ a = b := by unfold cmpI; split <;> (try split) <;> omega
theorem cmpPr_neg {p q : Pr} : cmpPr p q < 0 ↔ ltP p q := by
  unfold cmpPr ltP
  have h1 := cmpI_neg (a := p.1) (b := q.1)
  have h2 := cmpI_zero (a := p.1) (b := q.1)
  have h3 := cmpI_neg (a := p.2) (b := q.2)
  have h4 := cmpI_zero (a := p.2) (b := q.2)
  split
  · constructor
    · intro h; exact .inl (h1.1 h)
    · rintro (h | ⟨h, _⟩)
      · exact h1.2 h
      · rename_i hne _; exact absurd (h2.2 h) hne
  · rename_i hz
    have hz : cmpI p.1 q.1 = 0 := Classical.byContradiction hz
    have he := h2.1 hz
    split
    · constructor
      · intro h; exact .inr ⟨he, h3.1 h⟩
      · rintro (h | ⟨_, h⟩)
        · omega
        · exact h3.2 h
    · rename_i hz2
      have hz2 := h4.1 (Classical.byContradiction hz2)
      constructor
      · intro h; omega
      · rintro (h | ⟨_, h⟩) <;> omega
/-- Strictly in order. -/
abbrev Asc (l : List Pr) : Prop := l.Pairwise ltP
theorem Asc.ext : ∀ {a b : List Pr}, Asc a → Asc b → (∀ x, x ∈ a ↔ x ∈ b) → a = b
  | [], [], _, _, _ => rfl
  | [], y :: b, _, _, h => absurd ((h y).2 List.mem_cons_self) (by simp)
  | x :: a, [], _, _, h => absurd ((h x).1 List.mem_cons_self) (by simp)
  | x :: a, y :: b, ha, hb, h => by
    have ha' := List.pairwise_cons.1 ha
    have hb' := List.pairwise_cons.1 hb
    have hxy : x = y := by
      rcases List.mem_cons.1 ((h x).1 List.mem_cons_self) with e | e
      · exact e
      · rcases List.mem_cons.1 ((h y).2 List.mem_cons_self) with e' | e'
        · exact e'.symm
        · exact absurd (ha'.1 y e') (hb'.1 x e).asymm
    subst hxy
    rw [Asc.ext ha'.2 hb'.2 fun z => ?_]
    constructor
    · intro hz
      rcases List.mem_cons.1 ((h z).1 (List.mem_cons_of_mem _ hz)) with e | e
      · subst e; exact absurd (ha'.1 z hz) (ltP.irr z)
      · exact e
    · intro hz
      rcases List.mem_cons.1 ((h z).2 (List.mem_cons_of_mem _ hz)) with e | e
      · subst e; exact absurd (hb'.1 z hz) (ltP.irr z)
      · exact e

/-! ## Inserting -/
def insP : List Pr → Pr → List Pr
  | [], p => [p]
  | q :: l, p => if ltP q p then q :: insP l p else if q = p then q :: l else p :: q :: l
theorem mem_insP {x p : Pr} : ∀ {l : List Pr}, x ∈ insP l p ↔ x = p ∨ x ∈ l
  | [] => by simp [insP]
  | q :: l => by
    rw [insP]
    split
    · rw [List.mem_cons, mem_insP (l := l), List.mem_cons]
      constructor
      · rintro (h | h | h) <;> simp [h]
      · rintro (h | h | h) <;> simp [h]
    · split
      · rename_i h; subst h
        rw [List.mem_cons]
        constructor
        · rintro (h | h) <;> simp [h]
        · rintro (h | h | h) <;> simp [h]
      · simp
theorem asc_insP {p : Pr} : ∀ {l : List Pr}, Asc l → Asc (insP l p)
  | [], _ => by simp [insP]
  | q :: l, h => by
    have h' := List.pairwise_cons.1 h
    rw [insP]
    split
    · rename_i hq
      refine List.pairwise_cons.2 ⟨fun x hx => ?_, asc_insP h'.2⟩
      rcases mem_insP.1 hx with rfl | hx
      · exact hq
      · exact h'.1 x hx
    · rename_i hq
      split
      · exact h
      · rename_i hne
        have hlt : ltP p q := by
          rcases ltP.tri p q with e | e | e
          · exact e
          · exact absurd e.symm hne
          · exact absurd e hq
        refine List.pairwise_cons.2 ⟨fun x hx => ?_, h⟩
        rcases List.mem_cons.1 hx with rfl | hx
        · exact hlt
        · exact hlt.trans (h'.1 x hx)
theorem insP_len {p : Pr} : ∀ {l : List Pr}, l.length ≤ (insP l p).length ∧ (insP l p).length ≤ l.length + 1
  | [] => by simp [insP]
  | q :: l => by
    have ih := insP_len (p := p) (l := l)
    rw [insP]
    split
    · simp only [List.length_cons]; omega
    · split <;> simp only [List.length_cons] <;> omega
/-- A list put in order, each once. -/
def srt (l : List Pr) : List Pr := l.foldl insP []
theorem foldl_insP_mem {x : Pr} : ∀ {l c : List Pr}, x ∈ l.foldl insP c ↔ x ∈ c ∨ x ∈ l
  | [], c => by simp
  | p :: l, c => by
    rw [List.foldl_cons, foldl_insP_mem (l := l), mem_insP, List.mem_cons]
    constructor
    · rintro ((h | h) | h) <;> simp [h]
    · rintro (h | h | h) <;> simp [h]
theorem foldl_insP_asc : ∀ {l c : List Pr}, Asc c → Asc (l.foldl insP c)
  | [], _, h => h
  | _ :: l, _, h => foldl_insP_asc (l := l) (asc_insP h)
theorem mem_srt {x : Pr} {l : List Pr} : x ∈ srt l ↔ x ∈ l := by unfold srt; rw [foldl_insP_mem]; simp
theorem asc_srt (l : List Pr) : Asc (srt l) := foldl_insP_asc List.Pairwise.nil
theorem srt_len (l : List Pr) : (srt l).length ≤ l.length := by
  have : ∀ (l c : List Pr), (l.foldl insP c).length ≤ c.length + l.length := by
    intro l
    induction l with
    | nil => intro c; simp
    | cons p l ih =>
      intro c
      rw [List.foldl_cons]
      have h1 := ih (insP c p)
      have h2 := (insP_len (p := p) (l := c)).2
      simp only [List.length_cons]
      omega
  have := this l []
  simpa [srt] using this

/-! ## Without doubles next to each other -/
theorem getD_someG {α : Type} {z : α} {l : List α} {j : Nat} (h : j < l.length) : l[j]? = some (l.getD j z) := by
  rw [List.getD_eq_getElem?_getD, List.getElem?_eq_getElem h]; rfl
section
variable {α : Type} [DecidableEq α] {z : α}
def cpG (z : α) (d : List α) : Nat → List α
  | 0 => []
  | i + 1 => if 0 < i ∧ d.getD i z = d.getD (i - 1) z then cpG z d i else cpG z d i ++ [d.getD i z]
theorem cpG_full {d : List α} : ∀ {i : Nat}, i ≤ d.length → (∀ j, 0 < j → j < i → d.getD j z ≠ d.getD (j - 1) z) → cpG z d i = d.take i
  | 0, _, _ => by simp [cpG]
  | i + 1, hi, h => by
    rw [cpG, cpG_full (by omega) (fun j h0 hj => h j h0 (by omega))]
    rw [if_neg (fun e => h i e.1 (by omega) e.2), List.take_add_one, getD_someG (z := z) (by omega)]
    rfl
theorem cpG_all {d : List α} (h : ∀ j, 0 < j → j < d.length → d.getD j z ≠ d.getD (j - 1) z) : cpG z d d.length = d := by
  rw [cpG_full (Nat.le_refl _) h, List.take_length]
theorem cpG_mem {d : List α} {x : α} : ∀ {i : Nat}, x ∈ cpG z d i ↔ ∃ j, j < i ∧ d.getD j z = x
  | 0 => by simp [cpG]
  | i + 1 => by
    have ih := cpG_mem (d := d) (x := x) (i := i)
    rw [cpG]
    split
    · rename_i h
      rw [ih]
      constructor
      · rintro ⟨j, hj, e⟩; exact ⟨j, by omega, e⟩
      · rintro ⟨j, hj, e⟩
        by_cases hji : j = i
        · subst hji; exact ⟨j - 1, by omega, by rw [← h.2]; exact e⟩
        · exact ⟨j, by omega, e⟩
    · rw [List.mem_append, ih, List.mem_singleton]
      constructor
      · rintro (⟨j, hj, e⟩ | e)
        · exact ⟨j, by omega, e⟩
        · exact ⟨i, by omega, e.symm⟩
      · rintro ⟨j, hj, e⟩
        by_cases hji : j = i
        · subst hji; exact .inr e.symm
        · exact .inl ⟨j, by omega, e⟩
/-- The second loop's state: what has been kept stands ahead, what is to come is as it was. -/
structure CpSt (z : α) (d row : List α) (k j kk : Nat) : Prop where
  len : row.length = d.length
  cnt : (cpG z d (k + j)).length = kk
  pre : row.take kk = cpG z d (k + j)
  post : ∀ m, k + j ≤ m + 1 → m < d.length → row.getD m z = d.getD m z
  lt : kk < k + j
  bnd : k + j ≤ d.length
theorem CpSt.start {d : List α} {k : Nat} (h0 : 0 < k) (hk : k < d.length) (h : ∀ j, 0 < j → j < k → d.getD j z ≠ d.getD (j - 1) z) (he : d.getD k z = d.getD (k - 1) z) : CpSt z d d k 1 k := by
  have e : cpG z d (k + 1) = d.take k := by
    rw [cpG, if_pos ⟨h0, he⟩, cpG_full (by omega) h]
  exact ⟨rfl, by rw [e, List.length_take]; omega, e.symm, fun _ _ _ => rfl, by omega, by omega⟩
theorem CpSt.hold {d row : List α} {k j kk : Nat} (h : CpSt z d row k j kk) (hj : k + j < d.length) (h0 : 0 < k + j) (he : d.getD (k + j) z = d.getD (k + j - 1) z) : CpSt z d row k (j + 1) kk := by
  have e : cpG z d (k + (j + 1)) = cpG z d (k + j) := by
    rw [show k + (j + 1) = (k + j) + 1 from by omega, cpG, if_pos ⟨h0, he⟩]
  exact ⟨h.len, by rw [e]; exact h.cnt, by rw [e]; exact h.pre, fun m hm hl => h.post m (by omega) hl, by have := h.lt; omega, by omega⟩
theorem CpSt.put {d row : List α} {k j kk : Nat} (h : CpSt z d row k j kk) (hj : k + j < d.length) (he : d.getD (k + j) z ≠ d.getD (k + j - 1) z) : CpSt z d (row.set kk (d.getD (k + j) z)) k (j + 1) (kk + 1) := by
  have hl := h.lt
  have e : cpG z d (k + (j + 1)) = cpG z d (k + j) ++ [d.getD (k + j) z] := by
    rw [show k + (j + 1) = (k + j) + 1 from by omega, cpG, if_neg (fun e => he e.2)]
  refine ⟨by rw [List.length_set]; exact h.len, by rw [e, List.length_append, h.cnt]; rfl, ?_, fun m hm hl' => ?_, by omega, by omega⟩
  · rw [e, ← h.pre]
    have hlen : kk < row.length := by rw [h.len]; omega
    apply List.ext_getElem?
    intro t
    rcases Nat.lt_trichotomy t kk with ht | ht | ht
    · rw [List.getElem?_take, if_pos (by omega), List.getElem?_set_ne (by omega), List.getElem?_append_left (by rw [List.length_take]; omega), List.getElem?_take, if_pos ht]
    · subst ht
      rw [List.getElem?_take, if_pos (by omega), List.getElem?_set_self hlen, List.getElem?_append_right (by rw [List.length_take]; omega), List.length_take, Nat.min_eq_left (by omega), Nat.sub_self]
      rfl
    · rw [List.getElem?_eq_none (by rw [List.length_take, List.length_set]; omega), List.getElem?_eq_none (by rw [List.length_append, List.length_take]; simp; omega)]
  · rw [List.getD_eq_getElem?_getD, List.getElem?_set_ne (by omega), ← List.getD_eq_getElem?_getD]
    exact h.post m (by omega) hl'
end
theorem getD_dropG {α : Type} {z : α} (l : List α) (k j : Nat) : (l.drop k).getD j z = l.getD (k + j) z := by
  rw [List.getD_eq_getElem?_getD, List.getD_eq_getElem?_getD, List.getElem?_drop]
abbrev cpD : List Pr → Nat → List Pr := cpG dP
theorem cpD_mem {d : List Pr} {x : Pr} {i : Nat} : x ∈ cpD d i ↔ ∃ j, j < i ∧ d.getD j dP = x := cpG_mem
theorem cpD_asc {d : List Pr} (hd : ∀ i j, i < j → j < d.length → ¬ ltP (d.getD j dP) (d.getD i dP)) : ∀ {i : Nat}, i ≤ d.length → Asc (cpD d i)
  | 0, _ => List.Pairwise.nil
  | i + 1, hi => by
    have ih := cpD_asc hd (i := i) (by omega)
    rw [cpD, cpG]
    split
    · exact ih
    · rename_i hne
      refine List.pairwise_append.2 ⟨ih, List.pairwise_singleton _ _, ?_⟩
      intro x hx y hy
      obtain rfl := List.mem_singleton.1 hy
      obtain ⟨j, hj, rfl⟩ := cpD_mem.1 hx
      have h1 := hd j i hj (by omega)
      rcases ltP.tri (d.getD j dP) (d.getD i dP) with e | e | e
      · exact e
      · exfalso
        apply hne
        refine ⟨by omega, ?_⟩
        by_cases hji : j = i - 1
        · rw [← hji, e]
        · have h2 := hd j (i - 1) (by omega) (by omega)
          have h3 := hd (i - 1) i (by omega) (by omega)
          rw [e] at h2
          rcases ltP.tri (d.getD i dP) (d.getD (i - 1) dP) with k | k | k
          · exact absurd k h3
          · exact k
          · exact absurd k h2
      · exact absurd e h1
theorem cpD_srt {d l : List Pr} (hp : d.Perm l) (hd : ∀ i j, i < j → j < d.length → ¬ ltP (d.getD j dP) (d.getD i dP)) : cpD d d.length = srt l :=
  Asc.ext (cpD_asc hd (Nat.le_refl _)) (asc_srt l) fun x => by
    rw [mem_srt, cpD_mem]
    constructor
    · rintro ⟨j, hj, rfl⟩; exact hp.mem_iff.1 (getD_mem2 hj)
    · intro hx
      obtain ⟨j, hj, e⟩ := List.mem_iff_getElem.1 (hp.mem_iff.2 hx)
      exact ⟨j, hj, by rw [List.getD_eq_getElem?_getD, List.getElem?_eq_getElem hj]; exact e⟩
end Go.Fw
