/- Chapter 48: lists of pairs: their cells, their order, what is inserted, what is left without doubles. Plain. -/
import Derived.Test.YtmambmpohkollaaGreatDoorFwC
namespace Go.Fw
open Go Go.RowKit

abbrev Pr := Int × Int
abbrev pc (p : Pr) : List Value := [.int .i64 p.1, .int .i64 p.2]
def pcells (l : List Pr) : List Value := l.flatMap pc
abbrev pv (p : Pr) : Value := .agg #[.int .i64 p.1, .int .i64 p.2]
def dP : Pr := (0, 0)
theorem pcells_cons (x : Pr) (l : List Pr) : pcells (x :: l) = .int .i64 x.1 :: .int .i64 x.2 :: pcells l := rfl
theorem pcells_length : ∀ l : List Pr, (pcells l).length = l.length * 2
  | [] => rfl
  | x :: l => by rw [pcells_cons, List.length_cons, List.length_cons, pcells_length l, List.length_cons]; omega
theorem pcells_app (l m : List Pr) : pcells (l ++ m) = pcells l ++ pcells m := by unfold pcells; rw [List.flatMap_append]
theorem pcells_snoc (l : List Pr) (x : Pr) : pcells l ++ pc x = pcells (l ++ [x]) := by rw [pcells_app]; rfl
theorem pcells_get : ∀ {l : List Pr} {j : Nat} {x : Pr}, l[j]? = some x → ∀ m, m < 2 → (pcells l)[j * 2 + m]? = (pc x)[m]?
  | [], _, _, h, _, _ => by simp at h
  | y :: l, 0, x, h, m, hm => by
    simp at h
    subst h
    rw [pcells_cons]
    rcases (show m = 0 ∨ m = 1 by omega) with rfl | rfl <;> rfl
  | y :: l, j + 1, x, h, m, hm => by
    rw [pcells_cons, show (j + 1) * 2 + m = (j * 2 + m) + 1 + 1 from by omega, List.getElem?_cons_succ, List.getElem?_cons_succ]
    exact pcells_get (by simpa using h) m hm
theorem getD_some {l : List Pr} {j : Nat} (h : j < l.length) : l[j]? = some (l.getD j dP) := by
  rw [List.getD_eq_getElem?_getD, List.getElem?_eq_getElem h]; rfl
theorem getD_mem2 {l : List Pr} {j : Nat} (h : j < l.length) : l.getD j dP ∈ l := List.mem_of_getElem? (getD_some h)
theorem pcells_getA {l : List Pr} {j : Nat} (h : j < l.length) (m : Nat) (v : Value) (hv : (pc (l.getD j dP))[m]? = some v) : (pcells l)[j * 2 + m]? = some v := by
  have hm : m < 2 := by have := (List.getElem?_eq_some_iff.1 hv).1; simpa using this
  rw [pcells_get (getD_some h) m hm, hv]
theorem pcells_one {l : List Pr} {j : Nat} (h : j < l.length) : (pcells l)[j * 2 + 0]? = some (.int .i64 (l.getD j dP).1) ∧ (pcells l)[j * 2 + 1]? = some (.int .i64 (l.getD j dP).2) := ⟨pcells_getA h 0 _ rfl, pcells_getA h 1 _ rfl⟩
theorem pcells_set : ∀ {l : List Pr} {j : Nat} (x : Pr), j < l.length → ((pcells l).set (j * 2) (.int .i64 x.1)).set (j * 2 + 1) (.int .i64 x.2) = pcells (l.set j x)
  | [], _, _, h => by simp at h
  | y :: l, 0, x, _ => rfl
  | y :: l, j + 1, x, h => by
    have ih := pcells_set (l := l) (j := j) x (by simpa using h)
    rw [pcells_cons, show (j + 1) * 2 = j * 2 + 1 + 1 from by omega]
    simp only [List.set_cons_succ]
    rw [ih]
    rfl
theorem pcells_setA {l : List Pr} {j : Nat} (x : Pr) (h : j < l.length) : setAll (pcells l) (j * 2) (pc x) = pcells (l.set j x) := by
  rw [← pcells_set x h]
  simp only [setAll, updL_set]
theorem pcells_drop : ∀ (l : List Pr) (k : Nat), (pcells l).drop (k * 2) = pcells (l.drop k)
  | l, 0 => by simp
  | [], k + 1 => by simp [pcells]
  | x :: l, k + 1 => by
    rw [pcells_cons, show (k + 1) * 2 = k * 2 + 1 + 1 from by omega, List.drop_succ_cons, List.drop_succ_cons, pcells_drop l k]; rfl
theorem pcells_take : ∀ (l : List Pr) (k : Nat), (pcells l).take (k * 2) = pcells (l.take k)
  | l, 0 => by simp [pcells]
  | [], k + 1 => by simp [pcells]
  | x :: l, k + 1 => by
    rw [pcells_cons, show (k + 1) * 2 = k * 2 + 1 + 1 from by omega, List.take_succ_cons, List.take_succ_cons, pcells_take l k]; rfl
theorem allOne_pc (x : Pr) : AllOne (pc x) := AllOne.cons rfl (AllOne.cons rfl AllOne.nil)
theorem allOne_pcells (l : List Pr) : AllOne (pcells l) := by
  intro v hv
  unfold pcells at hv
  obtain ⟨x, _, hx⟩ := List.mem_flatMap.1 hv
  exact allOne_pc x v hx

/-! ## The order -/
abbrev ltP (p q : Pr) : Prop := p.1 < q.1 ∨ p.1 = q.1 ∧ p.2 < q.2
theorem ltP.irr (p : Pr) : ¬ ltP p p := by rintro (h | h) <;> omega
theorem ltP.trans {p q r : Pr} (h : ltP p q) (k : ltP q r) : ltP p r := by
  rcases h with h | ⟨h, h'⟩ <;> rcases k with k | ⟨k, k'⟩
  · exact .inl (by omega)
  · exact .inl (by omega)
  · exact .inl (by omega)
  · exact .inr ⟨by omega, by omega⟩
theorem ltP.tri (p q : Pr) : ltP p q ∨ p = q ∨ ltP q p := by
  obtain ⟨a, b⟩ := p
  obtain ⟨c, d⟩ := q
  rcases Int.lt_trichotomy a c with h | h | h
  · exact .inl (.inl h)
  · rcases Int.lt_trichotomy b d with k | k | k
    · exact .inl (.inr ⟨h, k⟩)
    · exact .inr (.inl (by rw [h, k]))
    · exact .inr (.inr (.inr ⟨h.symm, k⟩))
  · exact .inr (.inr (.inl h))
theorem ltP.asymm {p q : Pr} (h : ltP p q) : ¬ ltP q p := fun k => ltP.irr p (h.trans k)
def cmpI (a b : Int) : Int := if a < b then -1 else if b < a then 1 else 0
def cmpPr (p q : Pr) : Int := if cmpI p.1 q.1 ≠ 0 then cmpI p.1 q.1 else if cmpI p.2 q.2 ≠ 0 then cmpI p.2 q.2 else 0
theorem cmpI_neg {a b : Int} : cmpI a b < 0 ↔ a < b := by unfold cmpI; split <;> (try split) <;> omega
theorem cmpI_zero {a b : Int} : cmpI a b = 0 ↔ a = b := by unfold cmpI; split <;> (try split) <;> omega
theorem cmpPr_neg {p q : Pr} : cmpPr p q < 0 ↔ ltP p q := by
  unfold cmpPr ltP
  have h1 := cmpI_neg (a := p.1) (b := q.1)
  have h2 := cmpI_zero (a := p.1) (b := q.1)
  have h3 := cmpI_neg (a := p.2) (b := q.2)
  have h4 := cmpI_zero (a := p.2) (b := q.2)
  split
  · constructor
    · intro h; exact .inl (h1.1 h)
    · rintro (h | ⟨h, _⟩)
      · exact h1.2 h
      · rename_i hne _; exact absurd (h2.2 h) hne
  · rename_i hz
    have hz : cmpI p.1 q.1 = 0 := Classical.byContradiction hz
    have he := h2.1 hz
    split
    · constructor
      · intro h; exact .inr ⟨he, h3.1 h⟩
      · rintro (h | ⟨_, h⟩)
        · omega
        · exact h3.2 h
    · rename_i hz2
      have hz2 := h4.1 (Classical.byContradiction hz2)
      constructor
      · intro h; omega
      · rintro (h | ⟨_, h⟩) <;> omega
theorem cmpPr_in (p q : Pr) : -1 ≤ cmpPr p q ∧ cmpPr p q ≤ 1 := by
  have : ∀ a b, -1 ≤ cmpI a b ∧ cmpI a b ≤ 1 := fun a b => by unfold cmpI; split <;> (try split) <;> omega
  unfold cmpPr
  split
  · exact this _ _
  · split
    · exact this _ _
    · omega
/-- Strictly in order. -/
abbrev Asc (l : List Pr) : Prop := l.Pairwise ltP
theorem Asc.ext : ∀ {a b : List Pr}, Asc a → Asc b → (∀ x, x ∈ a ↔ x ∈ b) → a = b
  | [], [], _, _, _ => rfl
  | [], y :: b, _, _, h => absurd ((h y).2 List.mem_cons_self) (by simp)
  | x :: a, [], _, _, h => absurd ((h x).1 List.mem_cons_self) (by simp)
  | x :: a, y :: b, ha, hb, h => by
    have ha' := List.pairwise_cons.1 ha
    have hb' := List.pairwise_cons.1 hb
    have hxy : x = y := by
      rcases List.mem_cons.1 ((h x).1 List.mem_cons_self) with e | e
      · exact e
      · rcases List.mem_cons.1 ((h y).2 List.mem_cons_self) with e' | e'
        · exact e'.symm
        · exact absurd (ha'.1 y e') (hb'.1 x e).asymm
    subst hxy
    rw [Asc.ext ha'.2 hb'.2 fun z => ?_]
    constructor
    · intro hz
      rcases List.mem_cons.1 ((h z).1 (List.mem_cons_of_mem _ hz)) with e | e
      · subst e; exact absurd (ha'.1 z hz) (ltP.irr z)
      · exact e
    · intro hz
      rcases List.mem_cons.1 ((h z).2 (List.mem_cons_of_mem _ hz)) with e | e
      · subst e; exact absurd (hb'.1 z hz) (ltP.irr z)
      · exact e

/-! ## Inserting -/
def insP : List Pr → Pr → List Pr
  | [], p => [p]
  | q :: l, p => if ltP q p then q :: insP l p else if q = p then q :: l else p :: q :: l
theorem mem_insP {x p : Pr} : ∀ {l : List Pr}, x ∈ insP l p ↔ x = p ∨ x ∈ l
  | [] => by simp [insP]
  | q :: l => by
    rw [insP]
    split
    · rw [List.mem_cons, mem_insP (l := l), List.mem_cons]
      constructor
      · rintro (h | h | h) <;> simp [h]
      · rintro (h | h | h) <;> simp [h]
    · split
      · rename_i h; subst h
        rw [List.mem_cons]
        constructor
        · rintro (h | h) <;> simp [h]
        · rintro (h | h | h) <;> simp [h]
      · simp
theorem asc_insP {p : Pr} : ∀ {l : List Pr}, Asc l → Asc (insP l p)
  | [], _ => by simp [insP]
  | q :: l, h => by
    have h' := List.pairwise_cons.1 h
    rw [insP]
    split
    · rename_i hq
      refine List.pairwise_cons.2 ⟨fun x hx => ?_, asc_insP h'.2⟩
      rcases mem_insP.1 hx with rfl | hx
      · exact hq
      · exact h'.1 x hx
    · rename_i hq
      split
      · exact h
      · rename_i hne
        have hlt : ltP p q := by
          rcases ltP.tri p q with e | e | e
          · exact e
          · exact absurd e.symm hne
          · exact absurd e hq
        refine List.pairwise_cons.2 ⟨fun x hx => ?_, h⟩
        rcases List.mem_cons.1 hx with rfl | hx
        · exact hlt
        · exact hlt.trans (h'.1 x hx)
theorem insP_len {p : Pr} : ∀ {l : List Pr}, l.length ≤ (insP l p).length ∧ (insP l p).length ≤ l.length + 1
  | [] => by simp [insP]
  | q :: l => by
    have ih := insP_len (p := p) (l := l)
    rw [insP]
    split
    · simp only [List.length_cons]; omega
    · split <;> simp only [List.length_cons] <;> omega
/-- Where the order ends. -/
theorem insP_at {c : List Pr} {p : Pr} {k : Nat} (hk : k ≤ c.length) (h : ∀ j, j < k → ltP (c.getD j dP) p) (hs : k < c.length → ¬ ltP (c.getD k dP) p) :
    insP c p = if k < c.length ∧ c.getD k dP = p then c else c.take k ++ [p] ++ c.drop k := by
  induction k generalizing c with
  | zero =>
    cases c with
    | nil => simp [insP]
    | cons q l =>
      have h0 : ¬ ltP q p := by simpa using hs (by simp)
      rw [insP, if_neg h0]
      by_cases e : q = p
      · rw [if_pos e, if_pos ⟨by simp, by simpa using e⟩]
      · rw [if_neg e, if_neg (fun h => e (by simpa using h.2))]
        simp
  | succ k ih =>
    cases c with
    | nil => simp at hk
    | cons q l =>
      have hq : ltP q p := by simpa using h 0 (by omega)
      rw [insP, if_pos hq, ih (c := l) (by simpa using hk) (fun j hj => by simpa using h (j + 1) (by omega)) (fun hj => by simpa using hs (by simpa using hj))]
      by_cases e : k < l.length ∧ l.getD k dP = p
      · rw [if_pos e, if_pos ⟨by simpa using e.1, by simpa using e.2⟩]
      · rw [if_neg e, if_neg (fun h => e ⟨by simpa using h.1, by simpa using h.2⟩)]
        simp
/-- A list put in order, each once. -/
def srt (l : List Pr) : List Pr := l.foldl insP []
theorem foldl_insP_mem {x : Pr} : ∀ {l c : List Pr}, x ∈ l.foldl insP c ↔ x ∈ c ∨ x ∈ l
  | [], c => by simp
  | p :: l, c => by
    rw [List.foldl_cons, foldl_insP_mem (l := l), mem_insP, List.mem_cons]
    constructor
    · rintro ((h | h) | h) <;> simp [h]
    · rintro (h | h | h) <;> simp [h]
theorem foldl_insP_asc : ∀ {l c : List Pr}, Asc c → Asc (l.foldl insP c)
  | [], _, h => h
  | _ :: l, _, h => foldl_insP_asc (l := l) (asc_insP h)
theorem mem_srt {x : Pr} {l : List Pr} : x ∈ srt l ↔ x ∈ l := by unfold srt; rw [foldl_insP_mem]; simp
theorem asc_srt (l : List Pr) : Asc (srt l) := foldl_insP_asc List.Pairwise.nil
theorem srt_eq {l m : List Pr} (hm : Asc m) (h : ∀ x, x ∈ m ↔ x ∈ l) : srt l = m := Asc.ext (asc_srt l) hm fun x => mem_srt.trans (h x).symm
theorem srt_congr {l m : List Pr} (h : ∀ x, x ∈ l ↔ x ∈ m) : srt l = srt m := Asc.ext (asc_srt l) (asc_srt m) fun x => by rw [mem_srt, mem_srt]; exact h x
theorem srt_snoc (l : List Pr) (p : Pr) : srt (l ++ [p]) = insP (srt l) p := by unfold srt; rw [List.foldl_append]; rfl
theorem srt_len_mono (l : List Pr) (p : Pr) : (srt l).length ≤ (srt (l ++ [p])).length := by rw [srt_snoc]; exact insP_len.1
theorem srt_len (l : List Pr) : (srt l).length ≤ l.length := by
  have : ∀ (l c : List Pr), (l.foldl insP c).length ≤ c.length + l.length := by
    intro l
    induction l with
    | nil => intro c; simp
    | cons p l ih =>
      intro c
      rw [List.foldl_cons]
      have h1 := ih (insP c p)
      have h2 := (insP_len (p := p) (l := c)).2
      simp only [List.length_cons]
      omega
  have := this l []
  simpa [srt] using this

/-! ## Without doubles next to each other -/
theorem getD_someG {α : Type} {z : α} {l : List α} {j : Nat} (h : j < l.length) : l[j]? = some (l.getD j z) := by
  rw [List.getD_eq_getElem?_getD, List.getElem?_eq_getElem h]; rfl
section
variable {α : Type} [DecidableEq α] {z : α}
def cpG (z : α) (d : List α) : Nat → List α
  | 0 => []
  | i + 1 => if 0 < i ∧ d.getD i z = d.getD (i - 1) z then cpG z d i else cpG z d i ++ [d.getD i z]
theorem cpG_len (d : List α) : ∀ i, (cpG z d i).length ≤ i
  | 0 => Nat.le_refl _
  | i + 1 => by
    have := cpG_len d i
    rw [cpG]
    split
    · omega
    · rw [List.length_append]; simp; omega
theorem cpG_full {d : List α} : ∀ {i : Nat}, i ≤ d.length → (∀ j, 0 < j → j < i → d.getD j z ≠ d.getD (j - 1) z) → cpG z d i = d.take i
  | 0, _, _ => by simp [cpG]
  | i + 1, hi, h => by
    rw [cpG, cpG_full (by omega) (fun j h0 hj => h j h0 (by omega))]
    rw [if_neg (fun e => h i e.1 (by omega) e.2), List.take_add_one, getD_someG (z := z) (by omega)]
    rfl
theorem cpG_all {d : List α} (h : ∀ j, 0 < j → j < d.length → d.getD j z ≠ d.getD (j - 1) z) : cpG z d d.length = d := by
  rw [cpG_full (Nat.le_refl _) h, List.take_length]
theorem cpG_mem {d : List α} {x : α} : ∀ {i : Nat}, x ∈ cpG z d i ↔ ∃ j, j < i ∧ d.getD j z = x
  | 0 => by simp [cpG]
  | i + 1 => by
    have ih := cpG_mem (d := d) (x := x) (i := i)
    rw [cpG]
    split
    · rename_i h
      rw [ih]
      constructor
      · rintro ⟨j, hj, e⟩; exact ⟨j, by omega, e⟩
      · rintro ⟨j, hj, e⟩
        by_cases hji : j = i
        · subst hji; exact ⟨j - 1, by omega, by rw [← h.2]; exact e⟩
        · exact ⟨j, by omega, e⟩
    · rw [List.mem_append, ih, List.mem_singleton]
      constructor
      · rintro (⟨j, hj, e⟩ | e)
        · exact ⟨j, by omega, e⟩
        · exact ⟨i, by omega, e.symm⟩
      · rintro ⟨j, hj, e⟩
        by_cases hji : j = i
        · subst hji; exact .inr e.symm
        · exact .inl ⟨j, by omega, e⟩
/-- The second loop's state: what has been kept stands ahead, what is to come is as it was. -/
structure CpSt (z : α) (d row : List α) (k j kk : Nat) : Prop where
  len : row.length = d.length
  cnt : (cpG z d (k + j)).length = kk
  pre : row.take kk = cpG z d (k + j)
  post : ∀ m, k + j ≤ m + 1 → m < d.length → row.getD m z = d.getD m z
  lt : kk < k + j
  bnd : k + j ≤ d.length
theorem CpSt.start {d : List α} {k : Nat} (h0 : 0 < k) (hk : k < d.length) (h : ∀ j, 0 < j → j < k → d.getD j z ≠ d.getD (j - 1) z) (he : d.getD k z = d.getD (k - 1) z) : CpSt z d d k 1 k := by
  have e : cpG z d (k + 1) = d.take k := by
    rw [cpG, if_pos ⟨h0, he⟩, cpG_full (by omega) h]
  exact ⟨rfl, by rw [e, List.length_take]; omega, e.symm, fun _ _ _ => rfl, by omega, by omega⟩
theorem CpSt.hold {d row : List α} {k j kk : Nat} (h : CpSt z d row k j kk) (hj : k + j < d.length) (h0 : 0 < k + j) (he : d.getD (k + j) z = d.getD (k + j - 1) z) : CpSt z d row k (j + 1) kk := by
  have e : cpG z d (k + (j + 1)) = cpG z d (k + j) := by
    rw [show k + (j + 1) = (k + j) + 1 from by omega, cpG, if_pos ⟨h0, he⟩]
  exact ⟨h.len, by rw [e]; exact h.cnt, by rw [e]; exact h.pre, fun m hm hl => h.post m (by omega) hl, by have := h.lt; omega, by omega⟩
theorem CpSt.put {d row : List α} {k j kk : Nat} (h : CpSt z d row k j kk) (hj : k + j < d.length) (he : d.getD (k + j) z ≠ d.getD (k + j - 1) z) : CpSt z d (row.set kk (d.getD (k + j) z)) k (j + 1) (kk + 1) := by
  have hl := h.lt
  have e : cpG z d (k + (j + 1)) = cpG z d (k + j) ++ [d.getD (k + j) z] := by
    rw [show k + (j + 1) = (k + j) + 1 from by omega, cpG, if_neg (fun e => he e.2)]
  refine ⟨by rw [List.length_set]; exact h.len, by rw [e, List.length_append, h.cnt]; rfl, ?_, fun m hm hl' => ?_, by omega, by omega⟩
  · rw [e, ← h.pre]
    have hlen : kk < row.length := by rw [h.len]; omega
    apply List.ext_getElem?
    intro t
    rcases Nat.lt_trichotomy t kk with ht | ht | ht
    · rw [List.getElem?_take, if_pos (by omega), List.getElem?_set_ne (by omega), List.getElem?_append_left (by rw [List.length_take]; omega), List.getElem?_take, if_pos ht]
    · subst ht
      rw [List.getElem?_take, if_pos (by omega), List.getElem?_set_self hlen, List.getElem?_append_right (by rw [List.length_take]; omega), List.length_take, Nat.min_eq_left (by omega), Nat.sub_self]
      rfl
    · rw [List.getElem?_eq_none (by rw [List.length_take, List.length_set]; omega), List.getElem?_eq_none (by rw [List.length_append, List.length_take]; simp; omega)]
  · rw [List.getD_eq_getElem?_getD, List.getElem?_set_ne (by omega), ← List.getD_eq_getElem?_getD]
    exact h.post m (by omega) hl'
end
theorem getD_dropG {α : Type} {z : α} (l : List α) (k j : Nat) : (l.drop k).getD j z = l.getD (k + j) z := by
  rw [List.getD_eq_getElem?_getD, List.getD_eq_getElem?_getD, List.getElem?_drop]
abbrev cpD : List Pr → Nat → List Pr := cpG dP
theorem cpD_mem {d : List Pr} {x : Pr} {i : Nat} : x ∈ cpD d i ↔ ∃ j, j < i ∧ d.getD j dP = x := cpG_mem
theorem cpD_asc {d : List Pr} (hd : ∀ i j, i < j → j < d.length → ¬ ltP (d.getD j dP) (d.getD i dP)) : ∀ {i : Nat}, i ≤ d.length → Asc (cpD d i)
  | 0, _ => List.Pairwise.nil
  | i + 1, hi => by
    have ih := cpD_asc hd (i := i) (by omega)
    rw [cpD, cpG]
    split
    · exact ih
    · rename_i hne
      refine List.pairwise_append.2 ⟨ih, List.pairwise_singleton _ _, ?_⟩
      intro x hx y hy
      obtain rfl := List.mem_singleton.1 hy
      obtain ⟨j, hj, rfl⟩ := cpD_mem.1 hx
      have h1 := hd j i hj (by omega)
      rcases ltP.tri (d.getD j dP) (d.getD i dP) with e | e | e
      · exact e
      · exfalso
        apply hne
        refine ⟨by omega, ?_⟩
        by_cases hji : j = i - 1
        · rw [← hji, e]
        · have h2 := hd j (i - 1) (by omega) (by omega)
          have h3 := hd (i - 1) i (by omega) (by omega)
          rw [e] at h2
          rcases ltP.tri (d.getD i dP) (d.getD (i - 1) dP) with k | k | k
          · exact absurd k h3
          · exact k
          · exact absurd k h2
      · exact absurd e h1
theorem cpD_srt {d l : List Pr} (hp : d.Perm l) (hd : ∀ i j, i < j → j < d.length → ¬ ltP (d.getD j dP) (d.getD i dP)) : cpD d d.length = srt l :=
  Asc.ext (cpD_asc hd (Nat.le_refl _)) (asc_srt l) fun x => by
    rw [mem_srt, cpD_mem]
    constructor
    · rintro ⟨j, hj, rfl⟩; exact hp.mem_iff.1 (getD_mem2 hj)
    · intro hx
      obtain ⟨j, hj, e⟩ := List.mem_iff_getElem.1 (hp.mem_iff.2 hx)
      exact ⟨j, hj, by rw [List.getD_eq_getElem?_getD, List.getElem?_eq_getElem hj]; exact e⟩
end Go.Fw

/- Chapter 48: concordances, what they lead to. Plain. -/
namespace Go.Fw
open Go Go.RowKit

def or2 (a b : Int) : Int := if a ≠ 0 then a else if b ≠ 0 then b else 0
theorem or2_hit {a b : Int} {k : Nat} (hk : k < 2) (h0 : 0 < k → a = 0) (h : [a, b].getD k 0 ≠ 0) : or2 a b = [a, b].getD k 0 := by
  rcases Nat.eq_zero_or_pos k with e | e
  · subst e; exact if_pos h
  · have e1 : k = 1 := by omega
    subst e1
    unfold or2
    rw [if_neg (fun e => e (h0 (by omega)))]
    exact if_pos h
theorem or2_miss {a b : Int} (h0 : a = 0) (h1 : b = 0) : or2 a b = 0 := by subst h0; subst h1; rfl
abbrev numOk (n : Int) : Prop := 1 ≤ n ∧ n ≤ 999
def okAt (l : List Pr) (i : Nat) : Prop := (numOk (l.getD i dP).1 ∧ numOk (l.getD i dP).2) ∧ (0 < i → ltP (l.getD (i - 1) dP) (l.getD i dP))
instance (l : List Pr) (i : Nat) : Decidable (okAt l i) := by unfold okAt; infer_instance
def validC (l : List Pr) : Prop := (∀ i, i < l.length → okAt l i) ∧ l.length ≤ 128
instance (l : List Pr) : Decidable (validC l) := by unfold validC; infer_instance
theorem validC_no {l : List Pr} {i : Nat} (hi : i < l.length) (h : ¬ okAt l i) : decide (validC l) = false := decide_eq_false fun hv => h (hv.1 i hi)
theorem validC_len {l : List Pr} (h : ∀ i, i < l.length → okAt l i) : decide (validC l) = decide (l.length ≤ 128) := by
  by_cases hl : l.length ≤ 128
  · rw [decide_eq_true hl, decide_eq_true ⟨h, hl⟩]
  · rw [decide_eq_false hl, decide_eq_false (fun hv => hl hv.2)]
theorem okAt_no1 {l : List Pr} {i : Nat} (h : ¬ numOk (l.getD i dP).1) : ¬ okAt l i := fun e => h e.1.1
theorem okAt_no2 {l : List Pr} {i : Nat} (h : ¬ numOk (l.getD i dP).2) : ¬ okAt l i := fun e => h e.1.2
theorem okAt_no3 {l : List Pr} {i : Nat} (h0 : 0 < i) (h : ¬ ltP (l.getD (i - 1) dP) (l.getD i dP)) : ¬ okAt l i := fun e => h (e.2 h0)
theorem validC.asc {l : List Pr} (h : validC l) : Asc l := by
  have step : ∀ i, i + 1 < l.length → ltP (l.getD i dP) (l.getD (i + 1) dP) := fun i hi => (h.1 (i + 1) hi).2 (by omega)
  have far : ∀ d i, i + d + 1 < l.length → ltP (l.getD i dP) (l.getD (i + d + 1) dP) := by
    intro d
    induction d with
    | zero => intro i hi; exact step i hi
    | succ d ih => intro i hi; exact (ih i (by omega)).trans (step (i + d + 1) hi)
  refine List.pairwise_iff_getElem.2 fun i j hi hj hij => ?_
  have := far (j - i - 1) i (by omega)
  rw [show i + (j - i - 1) + 1 = j from by omega] at this
  rw [List.getD_eq_getElem?_getD, List.getD_eq_getElem?_getD, List.getElem?_eq_getElem hi, List.getElem?_eq_getElem hj] at this
  exact this
theorem validC.num {l : List Pr} (h : validC l) {x : Pr} (hx : x ∈ l) : numOk x.1 ∧ numOk x.2 := by
  obtain ⟨i, hi, rfl⟩ := List.mem_iff_getElem.1 hx
  have := (h.1 i hi).1
  rwa [List.getD_eq_getElem?_getD, List.getElem?_eq_getElem hi] at this
theorem validC_of {l : List Pr} (ha : Asc l) (hn : ∀ x ∈ l, numOk x.1 ∧ numOk x.2) (hl : l.length ≤ 128) : validC l := by
  refine ⟨fun i hi => ⟨hn _ (getD_mem2 hi), fun h0 => ?_⟩, hl⟩
  have := List.pairwise_iff_getElem.1 ha (i - 1) i (by omega) hi (by omega)
  rw [List.getD_eq_getElem?_getD, List.getD_eq_getElem?_getD, List.getElem?_eq_getElem (by omega), List.getElem?_eq_getElem hi]
  exact this
def valE (l : List Pr) : Int := if validC l then 0 else 1
/-- What is sorted, if it is not too long. -/
def sortR (l : List Pr) : List Pr := if (srt l).length ≤ 128 then srt l else []
def sortE (l : List Pr) : Int := if (srt l).length ≤ 128 then 0 else 6
theorem sortR_ok {l : List Pr} (h : (srt l).length ≤ 128) : sortR l = srt l ∧ sortE l = 0 := ⟨if_pos h, if_pos h⟩
theorem sortR_no {l : List Pr} (h : ¬ (srt l).length ≤ 128) : sortR l = [] ∧ sortE l = 6 := ⟨if_neg h, if_neg h⟩
def lukL (l : List Pr) (n : Int) : Nat → List Int
  | 0 => []
  | i + 1 => if (l.getD i dP).1 = n then lukL l n i ++ [(l.getD i dP).2] else lukL l n i
theorem lukL_len (l : List Pr) (n : Int) : ∀ i, (lukL l n i).length ≤ i
  | 0 => Nat.le_refl _
  | i + 1 => by
    have := lukL_len l n i
    rw [lukL]
    split
    · rw [List.length_append]; simp; omega
    · omega
def lukR (l : List Pr) (n : Int) : List Int := if validC l then lukL l n l.length else []
theorem lukR_ok {l : List Pr} {n : Int} (h : validC l) : lukR l n = lukL l n l.length := if_pos h
theorem lukR_no {l : List Pr} {n : Int} (h : ¬ validC l) : lukR l n = [] := if_neg h
theorem valE_ok {l : List Pr} (h : validC l) : valE l = 0 := if_pos h
theorem valE_no {l : List Pr} (h : ¬ validC l) : valE l = 1 := if_neg h
def SPI (R : List Int) (er : Int) (v : Value) (φo : List VP) : Prop := ∃ (ad : Option Addr) (c : Nat), v = .tuple #[.slice ad R.length c, .int .i64 er] ∧ (R.length ≤ c ∧ c ≤ 9223372036854775807) ∧ φo = [vCells ad (i64s R)]
def SPP (R : List Pr) (er : Int) (v : Value) (φo : List VP) : Prop := ∃ (ad : Option Addr) (c : Nat), v = .tuple #[.slice ad R.length c, .int .i64 er] ∧ (R.length ≤ c ∧ c ≤ 9223372036854775807) ∧ φo = [vCells ad (pcells R)]
theorem nilP {w : World} {X : Nat → Prop} : (vCells none (pcells [])).holds X w := by
  intro j u hj; simp [pcells] at hj
theorem nilI {w : World} {X : Nat → Prop} : (vCells none (i64s [])).holds X w := by
  intro j u hj; simp [i64s] at hj
end Go.Fw
namespace Go.Fw
open Go Go.RowKit
theorem ok4 (l : List Pr) (i : Nat) : ¬ numOk (l.getD i dP).1 ∨ (numOk (l.getD i dP).1 ∧ ¬ numOk (l.getD i dP).2) ∨ (numOk (l.getD i dP).1 ∧ numOk (l.getD i dP).2 ∧ i = 0) ∨ (numOk (l.getD i dP).1 ∧ numOk (l.getD i dP).2 ∧ 0 < i) := by
  by_cases h1 : numOk (l.getD i dP).1
  · by_cases h2 : numOk (l.getD i dP).2
    · rcases Nat.eq_zero_or_pos i with h | h
      · exact .inr (.inr (.inl ⟨h1, h2, h⟩))
      · exact .inr (.inr (.inr ⟨h1, h2, h⟩))
    · exact .inr (.inl ⟨h1, h2⟩)
  · exact .inl h1
theorem ok5 (l : List Pr) (i : Nat) : ¬ numOk (l.getD i dP).1 ∨ (numOk (l.getD i dP).1 ∧ ¬ numOk (l.getD i dP).2) ∨ (numOk (l.getD i dP).1 ∧ numOk (l.getD i dP).2 ∧ i = 0) ∨ (numOk (l.getD i dP).1 ∧ numOk (l.getD i dP).2 ∧ 0 < i ∧ ltP (l.getD (i - 1) dP) (l.getD i dP)) ∨ (numOk (l.getD i dP).1 ∧ numOk (l.getD i dP).2 ∧ 0 < i ∧ ¬ ltP (l.getD (i - 1) dP) (l.getD i dP)) := by
  rcases ok4 l i with h | h | h | ⟨h1, h2, h3⟩
  · exact .inl h
  · exact .inr (.inl h)
  · exact .inr (.inr (.inl h))
  · by_cases h4 : ltP (l.getD (i - 1) dP) (l.getD i dP)
    · exact .inr (.inr (.inr (.inl ⟨h1, h2, h3, h4⟩)))
    · exact .inr (.inr (.inr (.inr ⟨h1, h2, h3, h4⟩)))
theorem okNext {l : List Pr} {i : Nat} (h : ∀ j, j < i → okAt l j) (hi : okAt l i) : ∀ j, j < i + 1 → okAt l j := fun j hj => by
  by_cases e : j = i
  · subst e; exact hi
  · exact h j (by omega)
end Go.Fw
namespace Go.Fw
open Go Go.RowKit
theorem cellsTake {X : Nat → Prop} {w : World} {ad : Option Addr} {l : List Pr} (k : Nat) (h : (vCells ad (pcells l)).holds X w) : (vCells ad (pcells (l.take k))).holds X w := by
  intro j u hj
  rw [← pcells_take, List.getElem?_take] at hj
  split at hj
  · exact h j u hj
  · cases hj
theorem cellsDrop {X : Nat → Prop} {w : World} {ad : Option Addr} {l : List Pr} (c k : Nat) (hc : l.length ≤ c) (h : (vCells ad (pcells l)).holds X w) : (vCells (subAd ad c k 2) (pcells (l.drop k))).holds X w := by
  intro j u hj
  rw [← pcells_drop, List.getElem?_drop] at hj
  obtain ⟨b, o, he, hX, hcell⟩ := h (k * 2 + j) u hj
  have hlt := (List.getElem?_eq_some_iff.1 hj).1
  rw [pcells_length] at hlt
  subst he
  unfold subAd
  split
  · rename_i e; subst e; omega
  · refine ⟨b, o + k * 2, by simp [Addr.add], hX, ?_⟩
    rw [Nat.add_assoc]; exact hcell
theorem insCases (l : List Pr) (k : Nat) (p : Pr) : (k < l.length ∧ ltP (l.getD k dP) p) ∨ (k < l.length ∧ ¬ ltP (l.getD k dP) p) ∨ ¬ k < l.length := by
  by_cases h : k < l.length
  · by_cases h2 : ltP (l.getD k dP) p
    · exact .inl ⟨h, h2⟩
    · exact .inr (.inl ⟨h, h2⟩)
  · exact .inr (.inr h)
theorem eqCases (l : List Pr) (k : Nat) (p : Pr) : (k < l.length ∧ l.getD k dP = p) ∨ (k < l.length ∧ ¬ l.getD k dP = p) ∨ ¬ k < l.length := by
  by_cases h : k < l.length
  · by_cases h2 : l.getD k dP = p
    · exact .inl ⟨h, h2⟩
    · exact .inr (.inl ⟨h, h2⟩)
  · exact .inr (.inr h)
def IPP (R : List Pr) (v : Value) (φo : List VP) : Prop := ∃ (ad : Option Addr) (c : Nat), v = .slice ad R.length c ∧ (R.length ≤ c ∧ c ≤ 9223372036854775807) ∧ φo = [vCells ad (pcells R)]
theorem insNext {l : List Pr} {k : Nat} {p : Pr} (h : ∀ j, j < k → ltP (l.getD j dP) p) (hk : ltP (l.getD k dP) p) : ∀ j, j < k + 1 → ltP (l.getD j dP) p := fun j hj => by
  by_cases e : j = k
  · subst e; exact hk
  · exact h j (by omega)
end Go.Fw
namespace Go.Fw
open Go Go.RowKit
theorem caps0 : (0 : Nat) ≤ 0 ∧ 0 ≤ 9223372036854775807 := ⟨Nat.le_refl _, Nat.zero_le _⟩
/-! ## The inverse -/
def invF (l : List Pr) : Nat → List Pr
  | 0 => []
  | i + 1 => invF l i ++ [((l.getD i dP).2, (l.getD i dP).1)]
theorem invF_len (l : List Pr) : ∀ i, (invF l i).length = i
  | 0 => rfl
  | i + 1 => by rw [invF, List.length_append, invF_len l i]; rfl
theorem mem_invF {l : List Pr} {x : Pr} : ∀ {i : Nat}, i ≤ l.length → (x ∈ invF l i ↔ ∃ j, j < i ∧ l.getD j dP = (x.2, x.1))
  | 0, _ => by simp [invF]
  | i + 1, h => by
    rw [invF, List.mem_append, mem_invF (by omega), List.mem_singleton]
    constructor
    · rintro (⟨j, hj, e⟩ | rfl)
      · exact ⟨j, by omega, e⟩
      · exact ⟨i, by omega, rfl⟩
    · rintro ⟨j, hj, e⟩
      by_cases hji : j = i
      · subst hji; right; rw [e]
      · exact .inl ⟨j, by omega, e⟩
theorem mem_inv {l : List Pr} {x : Pr} : x ∈ invF l l.length ↔ (x.2, x.1) ∈ l := by
  rw [mem_invF (Nat.le_refl _)]
  constructor
  · rintro ⟨j, hj, e⟩; rw [← e]; exact getD_mem2 hj
  · intro h
    obtain ⟨j, hj, e⟩ := List.mem_iff_getElem.1 h
    exact ⟨j, hj, by rw [List.getD_eq_getElem?_getD, List.getElem?_eq_getElem hj]; exact e⟩
def invR (l : List Pr) : List Pr := if validC l then srt (invF l l.length) else []
theorem invR_ok {l : List Pr} (h : validC l) : invR l = srt (invF l l.length) := if_pos h
theorem invR_no {l : List Pr} (h : ¬ validC l) : invR l = [] := if_neg h
theorem inv_short {l : List Pr} (h : validC l) : (srt (invF l l.length)).length ≤ 128 := by
  have := srt_len (invF l l.length)
  rw [invF_len] at this
  have := h.2
  omega
theorem mem_invR {l : List Pr} (h : validC l) {x : Pr} : x ∈ invR l ↔ (x.2, x.1) ∈ l := by rw [invR_ok h, mem_srt, mem_inv]
theorem inv_sort {l : List Pr} (h : validC l) : sortR (invF l l.length) = invR l ∧ sortE (invF l l.length) = 0 := by
  rw [invR_ok h]; exact sortR_ok (inv_short h)
theorem valid_inv {l : List Pr} (h : validC l) : validC (invR l) := by
  refine validC_of (by rw [invR_ok h]; exact asc_srt _) (fun x hx => ?_) (by rw [invR_ok h]; exact inv_short h)
  have := h.num ((mem_invR h).1 hx)
  exact ⟨this.2, this.1⟩
/-! ## The composition -/
def cmpJ (p : Pr) (m : List Pr) : Nat → List Pr
  | 0 => []
  | j + 1 => if p.2 = (m.getD j dP).1 then cmpJ p m j ++ [(p.1, (m.getD j dP).2)] else cmpJ p m j
def cmpL (l m : List Pr) : Nat → List Pr
  | 0 => []
  | i + 1 => cmpL l m i ++ cmpJ (l.getD i dP) m m.length
theorem cmpJ_len (p : Pr) (m : List Pr) : ∀ j, (cmpJ p m j).length ≤ j
  | 0 => Nat.le_refl _
  | j + 1 => by
    have := cmpJ_len p m j
    rw [cmpJ]
    split
    · rw [List.length_append]; simp; omega
    · omega
theorem cmpL_len (l m : List Pr) : ∀ i, (cmpL l m i).length ≤ i * m.length
  | 0 => Nat.zero_le _
  | i + 1 => by
    have h1 := cmpL_len l m i
    have h2 := cmpJ_len (l.getD i dP) m m.length
    rw [cmpL, List.length_append, Nat.succ_mul]
    omega
theorem mem_cmpJ {p : Pr} {m : List Pr} {x : Pr} : ∀ {j : Nat}, x ∈ cmpJ p m j ↔ ∃ k, k < j ∧ p.2 = (m.getD k dP).1 ∧ x = (p.1, (m.getD k dP).2)
  | 0 => by simp [cmpJ]
  | j + 1 => by
    have ih := mem_cmpJ (p := p) (m := m) (x := x) (j := j)
    rw [cmpJ]
    split
    · rename_i h
      rw [List.mem_append, ih, List.mem_singleton]
      constructor
      · rintro (⟨k, hk, e⟩ | rfl)
        · exact ⟨k, by omega, e⟩
        · exact ⟨j, by omega, h, rfl⟩
      · rintro ⟨k, hk, e1, e2⟩
        by_cases hkj : k = j
        · subst hkj; exact .inr e2
        · exact .inl ⟨k, by omega, e1, e2⟩
    · rename_i h
      rw [ih]
      constructor
      · rintro ⟨k, hk, e⟩; exact ⟨k, by omega, e⟩
      · rintro ⟨k, hk, e1, e2⟩
        by_cases hkj : k = j
        · subst hkj; exact absurd e1 h
        · exact ⟨k, by omega, e1, e2⟩
theorem mem_cmpL {l m : List Pr} {x : Pr} : ∀ {i : Nat}, x ∈ cmpL l m i ↔ ∃ k, k < i ∧ x ∈ cmpJ (l.getD k dP) m m.length
  | 0 => by simp [cmpL]
  | i + 1 => by
    rw [cmpL, List.mem_append, mem_cmpL (i := i)]
    constructor
    · rintro (⟨k, hk, e⟩ | e)
      · exact ⟨k, by omega, e⟩
      · exact ⟨i, by omega, e⟩
    · rintro ⟨k, hk, e⟩
      by_cases hki : k = i
      · subst hki; exact .inr e
      · exact .inl ⟨k, by omega, e⟩
theorem mem_cmp {l m : List Pr} {x : Pr} : x ∈ cmpL l m l.length ↔ ∃ b, (x.1, b) ∈ l ∧ (b, x.2) ∈ m := by
  rw [mem_cmpL]
  constructor
  · rintro ⟨k, hk, h⟩
    obtain ⟨n, hn, e1, rfl⟩ := mem_cmpJ.1 h
    refine ⟨(l.getD k dP).2, getD_mem2 hk, ?_⟩
    rw [e1]; exact getD_mem2 hn
  · rintro ⟨b, h1, h2⟩
    obtain ⟨k, hk, e⟩ := List.mem_iff_getElem.1 h1
    obtain ⟨n, hn, e'⟩ := List.mem_iff_getElem.1 h2
    have g1 : l.getD k dP = (x.1, b) := by rw [List.getD_eq_getElem?_getD, List.getElem?_eq_getElem hk]; exact e
    have g2 : m.getD n dP = (b, x.2) := by rw [List.getD_eq_getElem?_getD, List.getElem?_eq_getElem hn]; exact e'
    exact ⟨k, hk, mem_cmpJ.2 ⟨n, hn, by rw [g1, g2], by rw [g1, g2]⟩⟩
theorem srt_len_pre (a b : List Pr) : (srt a).length ≤ (srt (a ++ b)).length := by
  induction b generalizing a with
  | nil => simp
  | cons x b ih =>
    have h1 := srt_len_mono a x
    have h2 := ih (a ++ [x])
    rw [List.append_assoc] at h2
    exact Nat.le_trans h1 h2
theorem cmpL_pre (l m : List Pr) : ∀ {i n : Nat}, i ≤ n → ∃ b, cmpL l m n = cmpL l m i ++ b := by
  intro i n h
  induction n with
  | zero => obtain rfl : i = 0 := by omega
            exact ⟨[], by simp⟩
  | succ n ih =>
    by_cases e : i = n + 1
    · subst e; exact ⟨[], by simp⟩
    · obtain ⟨b, hb⟩ := ih (by omega)
      exact ⟨b ++ cmpJ (l.getD n dP) m m.length, by rw [cmpL, hb, List.append_assoc]⟩
theorem cmpJ_pre (p : Pr) (m : List Pr) : ∀ {j n : Nat}, j ≤ n → ∃ b, cmpJ p m n = cmpJ p m j ++ b := by
  intro j n h
  induction n with
  | zero => obtain rfl : j = 0 := by omega
            exact ⟨[], by simp⟩
  | succ n ih =>
    by_cases e : j = n + 1
    · subst e; exact ⟨[], by simp⟩
    · obtain ⟨b, hb⟩ := ih (by omega)
      rw [cmpJ]
      split
      · exact ⟨b ++ [(p.1, (m.getD n dP).2)], by rw [hb, List.append_assoc]⟩
      · exact ⟨b, hb⟩
theorem cmp_full {l m : List Pr} {i j : Nat} (hi : i < l.length) (hj : j ≤ m.length) (h : 128 < (srt (cmpL l m i ++ cmpJ (l.getD i dP) m j)).length) : ¬ (srt (cmpL l m l.length)).length ≤ 128 := by
  obtain ⟨b, hb⟩ := cmpL_pre l m (i := i + 1) (n := l.length) (by omega)
  obtain ⟨c, hc⟩ := cmpJ_pre (l.getD i dP) m hj
  have := srt_len_pre (cmpL l m i ++ cmpJ (l.getD i dP) m j) (c ++ b)
  rw [show (cmpL l m i ++ cmpJ (l.getD i dP) m j) ++ (c ++ b) = cmpL l m l.length from by rw [hb, cmpL, hc]; simp only [List.append_assoc]] at this
  omega
/-- Both lists are asked. -/
def bothR (l m : List Pr) (R : List Pr) : List Pr := if validC l ∧ validC m then sortR R else []
def bothE (l m : List Pr) (R : List Pr) : Int := if validC l ∧ validC m then sortE R else 1
theorem both_ok {l m R : List Pr} (h : validC l ∧ validC m) : bothR l m R = sortR R ∧ bothE l m R = sortE R := ⟨if_pos h, if_pos h⟩
theorem both_no {l m R : List Pr} (h : ¬ (validC l ∧ validC m)) : bothR l m R = [] ∧ bothE l m R = 1 := ⟨if_neg h, if_neg h⟩
theorem sort_len (l : List Pr) : (sortR l).length ≤ 128 := by
  by_cases h : (srt l).length ≤ 128
  · rw [(sortR_ok h).1]; exact h
  · rw [(sortR_no h).1]; exact Nat.zero_le _
end Go.Fw
