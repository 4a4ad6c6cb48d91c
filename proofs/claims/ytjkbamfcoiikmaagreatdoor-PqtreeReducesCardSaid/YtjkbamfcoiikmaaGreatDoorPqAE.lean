/- Chapter 28: trees whose leaves are columns: what the program does with them, in plain Lean. -/
import Derived.Test.YtjkbamfcoiikmaaGreatDoorFwC
namespace Go.Fw.Pq
open Go
/-- A leaf, or a node with kids in any order (false) or in a line (true). -/
inductive PT where
  | leaf (n : Nat)
  | nd (q : Bool) (ks : List PT)
instance : Inhabited PT := ⟨.leaf 0⟩
theorem PT.ind {p : PT → Prop} (h1 : ∀ n, p (.leaf n)) (h2 : ∀ q ks, (∀ k ∈ ks, p k) → p (.nd q ks)) (t : PT) : p t :=
  PT.rec (motive_1 := p) (motive_2 := fun l => ∀ k ∈ l, p k) h1 (fun q ks ih => h2 q ks ih) (fun _ h => by cases h)
    (fun k ks hk ih x hx => by
      rcases List.mem_cons.1 hx with rfl | hx
      · exact hk
      · exact ih x hx) t
/-! ## States: 0 nothing of the row, 2 all, 1 something -/
def comb : List Nat → Nat
  | [] => 0
  | s :: l => if l.all (fun x => x == s) then s else 1
mutual
def st (S : Nat → Bool) : PT → Nat
  | .leaf n => if S n then 2 else 0
  | .nd _ ks => comb (stL S ks)
def stL (S : Nat → Bool) : List PT → List Nat
  | [] => []
  | k :: ks => st S k :: stL S ks
end
theorem stL_map (S : Nat → Bool) : ∀ ks, stL S ks = ks.map (st S)
  | [] => rfl
  | k :: ks => by rw [stL, stL_map S ks]; rfl
theorem st_nd (S : Nat → Bool) (q : Bool) (ks : List PT) : st S (.nd q ks) = comb (ks.map (st S)) := by rw [st, stL_map]
mutual
def lvs : PT → List Nat
  | .leaf n => [n]
  | .nd _ ks => lvsL ks
def lvsL : List PT → List Nat
  | [] => []
  | k :: ks => lvs k ++ lvsL ks
end
theorem lvsL_flat : ∀ ks, lvsL ks = ks.flatMap lvs
  | [] => rfl
  | k :: ks => by rw [lvsL, lvsL_flat ks]; rfl
theorem lvs_nd (q : Bool) (ks : List PT) : lvs (.nd q ks) = ks.flatMap lvs := by rw [lvs, lvsL_flat]
/-- Every node has two kids at least, one in a line three. -/
inductive Ok : PT → Prop
  | leaf (n : Nat) : Ok (.leaf n)
  | nd (q : Bool) (ks : List PT) : 2 ≤ ks.length → (q = true → 3 ≤ ks.length) → (∀ k ∈ ks, Ok k) → Ok (.nd q ks)
theorem Ok.kids {q : Bool} {ks : List PT} (h : Ok (.nd q ks)) : ∀ k ∈ ks, Ok k := by cases h; assumption
theorem Ok.two {q : Bool} {ks : List PT} (h : Ok (.nd q ks)) : 2 ≤ ks.length := by cases h; assumption
theorem Ok.three {ks : List PT} (h : Ok (.nd true ks)) : 3 ≤ ks.length := by cases h; simp_all
theorem Ok.lvs_ne {t : PT} (h : Ok t) : lvs t ≠ [] := by
  induction t using PT.ind with
  | h1 n => simp [lvs]
  | h2 q ks ih =>
    rw [lvs_nd]
    have h2 := h.two
    match ks, h2 with
    | k :: ks, _ =>
      have := ih k List.mem_cons_self (h.kids k List.mem_cons_self)
      simp [this]
theorem comb_zero {l : List Nat} (hl : l ≠ []) : comb l = 0 ↔ ∀ x ∈ l, x = 0 := by
  match l, hl with
  | s :: l, _ =>
    rw [comb]
    split
    · rename_i h
      simp only [List.all_eq_true, beq_iff_eq] at h
      constructor
      · rintro rfl x hx
        rcases List.mem_cons.1 hx with rfl | hx
        · rfl
        · exact h x hx
      · intro h2; exact h2 s List.mem_cons_self
    · rename_i h
      constructor
      · intro h2; simp at h2
      · intro h2
        exfalso; apply h
        simp only [List.all_eq_true, beq_iff_eq]
        intro x hx
        rw [h2 x (List.mem_cons_of_mem _ hx), h2 s List.mem_cons_self]
theorem comb_two {l : List Nat} (hl : l ≠ []) : comb l = 2 ↔ ∀ x ∈ l, x = 2 := by
  match l, hl with
  | s :: l, _ =>
    rw [comb]
    split
    · rename_i h
      simp only [List.all_eq_true, beq_iff_eq] at h
      constructor
      · rintro rfl x hx
        rcases List.mem_cons.1 hx with rfl | hx
        · rfl
        · exact h x hx
      · intro h2; exact h2 s List.mem_cons_self
    · rename_i h
      constructor
      · intro h2; simp at h2
      · intro h2
        exfalso; apply h
        simp only [List.all_eq_true, beq_iff_eq]
        intro x hx
        rw [h2 x (List.mem_cons_of_mem _ hx), h2 s List.mem_cons_self]
theorem comb_le {l : List Nat} (h : ∀ x ∈ l, x ≤ 2) : comb l ≤ 2 := by
  match l with
  | [] => simp [comb]
  | s :: l =>
    rw [comb]
    split
    · exact h s List.mem_cons_self
    · omega
theorem st_le (S : Nat → Bool) (t : PT) : st S t ≤ 2 := by
  induction t using PT.ind with
  | h1 n => rw [st]; split <;> omega
  | h2 q ks ih =>
    rw [st_nd]
    refine comb_le fun x hx => ?_
    obtain ⟨k, hk, rfl⟩ := List.mem_map.1 hx
    exact ih k hk
theorem st_zero {S : Nat → Bool} {t : PT} (h : Ok t) : st S t = 0 ↔ ∀ x ∈ lvs t, S x = false := by
  induction t using PT.ind with
  | h1 n => rw [st, lvs]; split <;> simp_all
  | h2 q ks ih =>
    have h2 := h.two
    rw [st_nd, lvs_nd, comb_zero (by intro e; have := congrArg List.length e; simp at this; subst this; simp at h2)]
    constructor
    · intro hx x hm
      obtain ⟨k, hk, hm⟩ := List.mem_flatMap.1 hm
      exact (ih k hk (h.kids k hk)).1 (hx _ (List.mem_map_of_mem hk)) x hm
    · intro hx y hy
      obtain ⟨k, hk, rfl⟩ := List.mem_map.1 hy
      exact (ih k hk (h.kids k hk)).2 fun x hm => hx x (List.mem_flatMap.2 ⟨k, hk, hm⟩)
theorem st_two {S : Nat → Bool} {t : PT} (h : Ok t) : st S t = 2 ↔ ∀ x ∈ lvs t, S x = true := by
  induction t using PT.ind with
  | h1 n => rw [st, lvs]; split <;> simp_all
  | h2 q ks ih =>
    have h2 := h.two
    rw [st_nd, lvs_nd, comb_two (by intro e; have := congrArg List.length e; simp at this; subst this; simp at h2)]
    constructor
    · intro hx x hm
      obtain ⟨k, hk, hm⟩ := List.mem_flatMap.1 hm
      exact (ih k hk (h.kids k hk)).1 (hx _ (List.mem_map_of_mem hk)) x hm
    · intro hx y hy
      obtain ⟨k, hk, rfl⟩ := List.mem_map.1 hy
      exact (ih k hk (h.kids k hk)).2 fun x hm => hx x (List.mem_flatMap.2 ⟨k, hk, hm⟩)
/-! ## Making nodes -/
def grp : List PT → List PT
  | [] => []
  | [t] => [t]
  | t :: u :: l => [.nd false (t :: u :: l)]
def lne (l : List PT) : List PT := if l.length < 3 then grp l else [.nd true l]
def by_ (S : Nat → Bool) (s : Nat) (l : List PT) : List PT := l.filter fun t => st S t == s
/-! ## A partial node in a line -/
def seqQ (S : Nat → Bool) (last : Nat) : List (PT × Option (List PT)) → Option (List PT)
  | [] => some []
  | p :: ps => if st S p.1 < last ∨ st S p.1 = 1 ∧ last = 1 then none else
      match p.2 with
      | none => none
      | some l => (seqQ S (st S p.1) ps).map (l ++ ·)
def linP (S : Nat → Bool) (ps : List (PT × Option (List PT))) : Option (List PT) :=
  match ps.filter fun p => st S p.1 == 1 with
  | [] => some (grp (by_ S 0 (ps.map (·.1))) ++ grp (by_ S 2 (ps.map (·.1))))
  | [m] => m.2.map fun l => grp (by_ S 0 (ps.map (·.1))) ++ l ++ grp (by_ S 2 (ps.map (·.1)))
  | _ => none
def turnQ (S : Nat → Bool) (ks : List PT) : Bool := decide (st S (ks.getLastD default) < st S (ks.headD default))
mutual
def lin (S : Nat → Bool) : PT → Option (List PT)
  | .leaf n => some [.leaf n]
  | .nd q ks => if st S (.nd q ks) ≠ 1 then some [.nd q ks] else
      if q then seqQ S 0 (if turnQ S ks then (linL S ks).reverse else linL S ks) else linP S (linL S ks)
def linL (S : Nat → Bool) : List PT → List (PT × Option (List PT))
  | [] => []
  | k :: ks => (k, lin S k) :: linL S ks
end
theorem linL_map (S : Nat → Bool) : ∀ ks, linL S ks = ks.map fun k => (k, lin S k)
  | [] => rfl
  | k :: ks => by rw [linL, linL_map S ks]; rfl
theorem lin_one {S : Nat → Bool} {t : PT} (h : st S t ≠ 1) : lin S t = some [t] := by
  cases t with
  | leaf n => rfl
  | nd q ks => rw [lin, if_pos h]
theorem leaf_st (S : Nat → Bool) (n : Nat) : st S (.leaf n) ≠ 1 := by rw [st]; split <;> omega
theorem lin_P {S : Nat → Bool} {ks : List PT} (h : st S (.nd false ks) = 1) : lin S (.nd false ks) =
    match by_ S 1 ks with
    | [] => some (grp (by_ S 0 ks) ++ grp (by_ S 2 ks))
    | [m] => (lin S m).map fun l => grp (by_ S 0 ks) ++ l ++ grp (by_ S 2 ks)
    | _ => none := by
  rw [lin, if_neg (by simpa using h)]
  simp only [Bool.false_eq_true, if_false, linP, linL_map, List.map_map]
  have e1 : ((fun p : PT × Option (List PT) => p.1) ∘ fun k => (k, lin S k)) = id := rfl
  rw [show ((fun x : PT × Option (List PT) => x.fst) ∘ fun k => (k, lin S k)) = id from rfl, List.map_id, List.filter_map]
  rw [show ((fun p : PT × Option (List PT) => st S p.1 == 1) ∘ fun k => (k, lin S k)) = fun t => st S t == 1 from rfl]
  show _ = match ks.filter (fun t => st S t == 1) with
    | [] => some (grp (by_ S 0 ks) ++ grp (by_ S 2 ks))
    | [m] => (lin S m).map fun l => grp (by_ S 0 ks) ++ l ++ grp (by_ S 2 ks)
    | _ => none
  rcases ks.filter (fun t => st S t == 1) with _ | ⟨m, _ | ⟨m2, l⟩⟩ <;> rfl
/-- The parts of a line, in order. -/
def linQ (S : Nat → Bool) (last : Nat) : List PT → Option (List PT)
  | [] => some []
  | k :: ks => if st S k < last ∨ st S k = 1 ∧ last = 1 then none else
      match lin S k with
      | none => none
      | some l => (linQ S (st S k) ks).map (l ++ ·)
theorem seqQ_linQ (S : Nat → Bool) : ∀ (ks : List PT) (last : Nat), seqQ S last (ks.map fun k => (k, lin S k)) = linQ S last ks
  | [], _ => rfl
  | k :: ks, last => by rw [List.map_cons, seqQ, linQ, seqQ_linQ S ks]
theorem lin_Q {S : Nat → Bool} {ks : List PT} (h : st S (.nd true ks) = 1) : lin S (.nd true ks) = linQ S 0 (if turnQ S ks then ks.reverse else ks) := by
  rw [lin, if_neg (by simpa using h), if_pos rfl, linL_map, ← List.map_reverse]
  by_cases c : turnQ S ks
  · rw [if_pos c, if_pos c, seqQ_linQ]
  · rw [if_neg c, if_neg c, seqQ_linQ]
/-! ## Reducing -/
/-- A node with several kids, in any order, that have something of the row. -/
def tog (S : Nat → Bool) (ks : List PT) : Option PT :=
  (match by_ S 1 ks with
  | [] => some (grp (by_ S 2 ks))
  | [a] => (lin S a).map fun l => l ++ grp (by_ S 2 ks)
  | [a, b] => match lin S a, lin S b with
    | some l, some m => some (l ++ grp (by_ S 2 ks) ++ m.reverse)
    | _, _ => none
  | _ => none).map fun l => (grp (by_ S 0 ks ++ lne l)).headD default
/-- The parts of a line of whose kids the first and the last that have something of the row are known. -/
def wthL (S : Nat → Bool) (f l : Nat) : Nat → List PT → Option (List PT)
  | _, [] => some []
  | i, k :: ks => if f < i ∧ i < l ∧ st S k ≠ 2 then none else
      match (if i = f ∨ i = l then lin S k else some [k]) with
      | none => none
      | some m => (wthL S f l (i + 1) ks).map ((if i = l then m.reverse else m) ++ ·)
/-- The last place of something of the row. -/
def lastI (S : Nat → Bool) (ks : List PT) : Nat := ks.length - 1 - ks.reverse.findIdx fun k => st S k != 0
def firstI (S : Nat → Bool) (ks : List PT) : Nat := ks.findIdx fun k => st S k != 0
def wth (S : Nat → Bool) (ks : List PT) : Option PT := (wthL S (firstI S ks) (lastI S ks) 0 ks).map fun l => (lne l).headD default
def some_ (S : Nat → Bool) (ks : List PT) : Nat := (ks.filter fun k => st S k != 0).length
mutual
def red (S : Nat → Bool) : PT → Option PT
  | .leaf n => some (.leaf n)
  | .nd q ks => if st S (.nd q ks) = 2 then some (.nd q ks) else
      if some_ S ks = 1 then ((redL S ks).getD (lastI S ks) none).map fun k => .nd q (ks.set (lastI S ks) k) else
      if q then wth S ks else tog S ks
def redL (S : Nat → Bool) : List PT → List (Option PT)
  | [] => []
  | k :: ks => red S k :: redL S ks
end
theorem redL_map (S : Nat → Bool) : ∀ ks, redL S ks = ks.map (red S)
  | [] => rfl
  | k :: ks => by rw [redL, redL_map S ks]; rfl
theorem red_nd (S : Nat → Bool) (q : Bool) (ks : List PT) : red S (.nd q ks) = if st S (.nd q ks) = 2 then some (.nd q ks) else
      if some_ S ks = 1 then (((ks.map (red S)).getD (lastI S ks) none).map fun k => .nd q (ks.set (lastI S ks) k)) else
      if q then wth S ks else tog S ks := by rw [red, redL_map]
end Go.Fw.Pq

/- Chapter 28: the orders of a tree (frontiers), and that reducing keeps exactly those in which the row is consecutive. -/
namespace Go.Fw.Pq
open Go
def cat : List (List Nat → Prop) → List Nat → Prop
  | [], l => l = []
  | p :: ps, l => ∃ a b, l = a ++ b ∧ p a ∧ cat ps b
mutual
/-- An order of the leaves that a tree allows. -/
def Fr : PT → List Nat → Prop
  | .leaf n => fun l => l = [n]
  | .nd true ks => fun l => cat (FrM ks) l ∨ cat (FrM ks).reverse l
  | .nd false ks => fun l => ∃ ps, ps.Perm (FrM ks) ∧ cat ps l
def FrM : List PT → List (List Nat → Prop)
  | [] => []
  | k :: ks => Fr k :: FrM ks
end
theorem FrM_map : ∀ ks, FrM ks = ks.map Fr
  | [] => rfl
  | k :: ks => by rw [FrM, FrM_map ks]; rfl
def FrL (ks : List PT) (l : List Nat) : Prop := cat (ks.map Fr) l
theorem Fr_leaf (n : Nat) (l : List Nat) : Fr (.leaf n) l ↔ l = [n] := Iff.rfl
theorem Fr_Q (ks : List PT) (l : List Nat) : Fr (.nd true ks) l ↔ FrL ks l ∨ FrL ks.reverse l := by
  show cat (FrM ks) l ∨ cat (FrM ks).reverse l ↔ _
  unfold FrL
  rw [FrM_map, List.map_reverse]
theorem perm_of_map {α β : Type} (f : α → β) {qs : List β} {ks : List α} (h : qs.Perm (ks.map f)) : ∃ ks' : List α, ks'.Perm ks ∧ qs = ks'.map f := by
  generalize hm : ks.map f = m at h
  induction h generalizing ks with
  | nil => cases List.map_eq_nil_iff.1 hm; exact ⟨[], .refl _, rfl⟩
  | @cons x l1 l2 _ ih =>
    match ks, hm with
    | k :: ks, hm =>
      rw [List.map_cons] at hm
      have e1 := (List.cons.inj hm).1
      obtain ⟨ks', h1, h2⟩ := ih (List.cons.inj hm).2
      exact ⟨k :: ks', h1.cons k, by rw [List.map_cons, e1, h2]⟩
  | swap x y l =>
    match ks, hm with
    | a :: b :: ks, hm =>
      rw [List.map_cons, List.map_cons] at hm
      have e1 := (List.cons.inj hm).1
      have e2 := List.cons.inj (List.cons.inj hm).2
      exact ⟨b :: a :: ks, .swap _ _ _, by rw [List.map_cons, List.map_cons, e1, e2.1, e2.2]⟩
  | trans _ _ ih1 ih2 =>
    obtain ⟨k2, h2, e2⟩ := ih2 hm
    obtain ⟨k1, h1, e1⟩ := ih1 e2.symm
    exact ⟨k1, h1.trans h2, e1⟩
theorem Fr_P (ks : List PT) (l : List Nat) : Fr (.nd false ks) l ↔ ∃ ks', ks'.Perm ks ∧ FrL ks' l := by
  show (∃ ps, ps.Perm (FrM ks) ∧ cat ps l) ↔ _
  rw [FrM_map]
  constructor
  · rintro ⟨ps, h, hc⟩
    obtain ⟨ks', h1, rfl⟩ := perm_of_map Fr h
    exact ⟨ks', h1, hc⟩
  · rintro ⟨ks', h, hc⟩
    exact ⟨_, h.map Fr, hc⟩
theorem FrL_nil (l : List Nat) : FrL [] l ↔ l = [] := Iff.rfl
theorem FrL_cons (k : PT) (ks : List PT) (l : List Nat) : FrL (k :: ks) l ↔ ∃ a b, l = a ++ b ∧ Fr k a ∧ FrL ks b := Iff.rfl
theorem FrL_app : ∀ (A B : List PT) (l : List Nat), FrL (A ++ B) l ↔ ∃ a b, l = a ++ b ∧ FrL A a ∧ FrL B b
  | [], B, l => by
    constructor
    · intro h; exact ⟨[], l, rfl, rfl, h⟩
    · rintro ⟨a, b, rfl, ha, hb⟩
      obtain rfl : a = [] := ha
      exact hb
  | k :: A, B, l => by
    rw [List.cons_append, FrL_cons]
    constructor
    · rintro ⟨a, b, rfl, ha, hb⟩
      obtain ⟨c, d, rfl, hc, hd⟩ := (FrL_app A B b).1 hb
      exact ⟨a ++ c, d, by simp, ⟨a, c, rfl, ha, hc⟩, hd⟩
    · rintro ⟨a, b, rfl, ⟨c, d, rfl, hc, hd⟩, hb⟩
      exact ⟨c, d ++ b, by simp, hc, (FrL_app A B _).2 ⟨d, b, rfl, hd, hb⟩⟩
theorem FrL_one (k : PT) (l : List Nat) : FrL [k] l ↔ Fr k l := by
  rw [FrL_cons]
  constructor
  · rintro ⟨a, b, rfl, ha, hb⟩
    obtain rfl : b = [] := hb
    simpa using ha
  · intro h; exact ⟨l, [], by simp, h, rfl⟩
theorem FrL_perm_of {ks : List PT} (h : ∀ k ∈ ks, ∀ l, Fr k l → l.Perm (lvs k)) : ∀ {l : List Nat}, FrL ks l → l.Perm (ks.flatMap lvs) := by
  induction ks with
  | nil => intro l hl; obtain rfl : l = [] := hl; exact .refl _
  | cons k ks ih =>
    rintro l ⟨a, b, rfl, ha, hb⟩
    rw [List.flatMap_cons]
    exact (h k List.mem_cons_self a ha).append (ih (fun x hx => h x (List.mem_cons_of_mem _ hx)) hb)
theorem Fr_perm {t : PT} : ∀ {l : List Nat}, Fr t l → l.Perm (lvs t) := by
  induction t using PT.ind with
  | h1 n => rintro l h; obtain rfl : l = [n] := h; exact .refl _
  | h2 q ks ih =>
    intro l h
    rw [lvs_nd]
    cases q with
    | false =>
      obtain ⟨ks', hp, hl⟩ := (Fr_P ks l).1 h
      exact (FrL_perm_of (fun k hk l' => ih k (hp.mem_iff.1 hk)) hl).trans (hp.flatMap_right lvs)
    | true =>
      rcases (Fr_Q ks l).1 h with h | h
      · exact FrL_perm_of (fun k hk l' => ih k hk) h
      · exact (FrL_perm_of (fun k hk l' => ih k (List.mem_reverse.1 hk)) h).trans ((List.reverse_perm ks).flatMap_right lvs)
theorem FrL_perm {ks : List PT} {l : List Nat} (h : FrL ks l) : l.Perm (ks.flatMap lvs) := FrL_perm_of (fun _ _ _ => Fr_perm) h
theorem FrL_lvs {ks : List PT} (h : ∀ k ∈ ks, Fr k (lvs k)) : FrL ks (ks.flatMap lvs) := by
  induction ks with
  | nil => rfl
  | cons k ks ih => exact ⟨_, _, List.flatMap_cons, h k List.mem_cons_self, ih fun x hx => h x (List.mem_cons_of_mem _ hx)⟩
theorem Fr_lvs (t : PT) : Fr t (lvs t) := by
  induction t using PT.ind with
  | h1 n => rfl
  | h2 q ks ih =>
    rw [lvs_nd]
    cases q with
    | false => exact (Fr_P _ _).2 ⟨ks, .refl _, FrL_lvs ih⟩
    | true => exact (Fr_Q _ _).2 (.inl (FrL_lvs ih))
theorem FrL_rev_of {ks : List PT} (h : ∀ k ∈ ks, ∀ l, Fr k l → Fr k l.reverse) : ∀ {l : List Nat}, FrL ks l → FrL ks.reverse l.reverse := by
  induction ks with
  | nil => intro l hl; obtain rfl : l = [] := hl; rfl
  | cons k ks ih =>
    rintro l ⟨a, b, rfl, ha, hb⟩
    rw [List.reverse_cons, List.reverse_append, FrL_app]
    exact ⟨_, _, rfl, ih (fun x hx => h x (List.mem_cons_of_mem _ hx)) hb, (FrL_one _ _).2 (h k List.mem_cons_self a ha)⟩
theorem Fr_rev {t : PT} : ∀ {l : List Nat}, Fr t l → Fr t l.reverse := by
  induction t using PT.ind with
  | h1 n => rintro l h; obtain rfl : l = [n] := h; rfl
  | h2 q ks ih =>
    intro l h
    cases q with
    | false =>
      obtain ⟨ks', hp, hl⟩ := (Fr_P ks l).1 h
      exact (Fr_P _ _).2 ⟨ks'.reverse, (List.reverse_perm _).trans hp, FrL_rev_of (fun k hk l' => ih k (hp.mem_iff.1 hk)) hl⟩
    | true =>
      rcases (Fr_Q ks l).1 h with h | h
      · exact (Fr_Q _ _).2 (.inr (FrL_rev_of (fun k hk l' => ih k hk) h))
      · have := FrL_rev_of (fun k hk l' => ih k (List.mem_reverse.1 hk)) h
        rw [List.reverse_reverse] at this
        exact (Fr_Q _ _).2 (.inl this)
theorem FrL_rev {ks : List PT} {l : List Nat} : FrL ks.reverse l ↔ FrL ks l.reverse := by
  constructor
  · intro h
    have := FrL_rev_of (fun _ _ _ => Fr_rev) h
    rwa [List.reverse_reverse] at this
  · intro h
    have := FrL_rev_of (fun _ _ _ => Fr_rev) h
    rwa [List.reverse_reverse] at this
theorem FrL_grp (l : List PT) (a : List Nat) : FrL (grp l) a ↔ ∃ l', l'.Perm l ∧ FrL l' a := by
  match l with
  | [] => exact ⟨fun h => ⟨[], .refl _, h⟩, fun ⟨l', h, h'⟩ => by cases List.perm_nil.1 h; exact h'⟩
  | [t] => exact ⟨fun h => ⟨[t], .refl _, h⟩, fun ⟨l', h, h'⟩ => by cases List.perm_singleton.1 h; exact h'⟩
  | t :: u :: l => rw [grp, FrL_one, Fr_P]
theorem FrL_lne (l : List PT) (a : List Nat) : FrL (lne l) a ↔ FrL l a ∨ FrL l.reverse a := by
  unfold lne
  split
  · rename_i h
    match l, h with
    | [], _ => simp [grp]
    | [t], _ => simp [grp]
    | [t, u], _ =>
      rw [FrL_grp]
      constructor
      · rintro ⟨l', hp, hl⟩
        have : l' = [t, u] ∨ l' = [u, t] := by
          have hlen := hp.length_eq
          match l', hlen with
          | [x, y], _ =>
            have hx : x = t ∨ x = u := by simpa using hp.mem_iff (a := x).1 List.mem_cons_self
            rcases hx with rfl | rfl
            · have := hp.cons_inv
              cases List.perm_singleton.1 this
              exact .inl rfl
            · have := (hp.trans (.swap x t [])).cons_inv
              cases List.perm_singleton.1 this
              exact .inr rfl
        rcases this with rfl | rfl
        · exact .inl hl
        · exact .inr hl
      · rintro (h | h)
        · exact ⟨_, .refl _, h⟩
        · exact ⟨_, .swap _ _ _, h⟩
  · rw [FrL_one, Fr_Q]
/-! ## Rows in orders -/
section
variable (S : Nat → Bool)
def non (l : List Nat) : Prop := ∀ x ∈ l, S x = false
def al (l : List Nat) : Prop := ∀ x ∈ l, S x = true
def EF (l : List Nat) : Prop := ∃ a b, l = a ++ b ∧ non S a ∧ al S b
def Cn (l : List Nat) : Prop := ∃ a b c, l = a ++ b ++ c ∧ non S a ∧ al S b ∧ non S c
end
variable {S : Nat → Bool}
theorem non_nil : non S [] := fun _ h => by cases h
theorem al_nil : al S [] := fun _ h => by cases h
theorem non_app {a b : List Nat} : non S (a ++ b) ↔ non S a ∧ non S b :=
  ⟨fun h => ⟨fun x hx => h x (List.mem_append_left _ hx), fun x hx => h x (List.mem_append_right _ hx)⟩, fun h x hx => (List.mem_append.1 hx).elim (h.1 x) (h.2 x)⟩
theorem al_app {a b : List Nat} : al S (a ++ b) ↔ al S a ∧ al S b :=
  ⟨fun h => ⟨fun x hx => h x (List.mem_append_left _ hx), fun x hx => h x (List.mem_append_right _ hx)⟩, fun h x hx => (List.mem_append.1 hx).elim (h.1 x) (h.2 x)⟩
theorem non.ef {l : List Nat} (h : non S l) : EF S l := ⟨l, [], by simp, h, al_nil⟩
theorem al.ef {l : List Nat} (h : al S l) : EF S l := ⟨[], l, rfl, non_nil, h⟩
theorem non_rev {l : List Nat} : non S l.reverse ↔ non S l := ⟨fun h x hx => h x (List.mem_reverse.2 hx), fun h x hx => h x (List.mem_reverse.1 hx)⟩
theorem al_rev {l : List Nat} : al S l.reverse ↔ al S l := ⟨fun h x hx => h x (List.mem_reverse.2 hx), fun h x hx => h x (List.mem_reverse.1 hx)⟩
theorem non_al {l : List Nat} (hl : l ≠ []) (h : non S l) (h2 : al S l) : False := by
  match l, hl with
  | x :: l, _ => have := h x List.mem_cons_self; rw [h2 x List.mem_cons_self] at this; cases this
theorem EF_app {a b : List Nat} : EF S (a ++ b) ↔ (non S a ∧ EF S b) ∨ (EF S a ∧ al S b) := by
  constructor
  · rintro ⟨c, d, e, hc, hd⟩
    rcases List.append_eq_append_iff.1 e with ⟨x, rfl, rfl⟩ | ⟨x, rfl, rfl⟩
    · exact .inl ⟨(non_app.1 hc).1, ⟨x, d, rfl, (non_app.1 hc).2, hd⟩⟩
    · exact .inr ⟨⟨c, x, rfl, hc, (al_app.1 hd).1⟩, (al_app.1 hd).2⟩
  · rintro (⟨h, c, d, rfl, hc, hd⟩ | ⟨⟨c, d, rfl, hc, hd⟩, h⟩)
    · exact ⟨a ++ c, d, by simp, non_app.2 ⟨h, hc⟩, hd⟩
    · exact ⟨c, d ++ b, by simp, hc, al_app.2 ⟨hd, h⟩⟩
theorem Cn_iff {l : List Nat} : Cn S l ↔ ∃ a b, l = a ++ b ∧ EF S a ∧ non S b := by
  constructor
  · rintro ⟨a, b, c, rfl, ha, hb, hc⟩
    exact ⟨a ++ b, c, rfl, ⟨a, b, rfl, ha, hb⟩, hc⟩
  · rintro ⟨a, b, rfl, ⟨c, d, rfl, hc, hd⟩, hb⟩
    exact ⟨c, d, b, rfl, hc, hd, hb⟩
theorem Cn_rev {l : List Nat} : Cn S l.reverse ↔ Cn S l := by
  have : ∀ {l : List Nat}, Cn S l → Cn S l.reverse := by
    rintro l ⟨a, b, c, rfl, ha, hb, hc⟩
    exact ⟨c.reverse, b.reverse, a.reverse, by simp, non_rev.2 hc, al_rev.2 hb, non_rev.2 ha⟩
  refine ⟨fun h => ?_, this⟩
  have h2 := this h
  rwa [List.reverse_reverse] at h2
theorem al.cn {l : List Nat} (h : al S l) : Cn S l := ⟨[], l, [], by simp, non_nil, h, non_nil⟩
/-- What is in front is empty, or what comes behind is in order. -/
theorem Cn_app {a b : List Nat} : Cn S (a ++ b) ↔ (non S a ∧ Cn S b) ∨ (Cn S a ∧ non S b) ∨ (EF S a ∧ EF S b.reverse) := by
  constructor
  · rintro ⟨c, d, e, he, hc, hd, hee⟩
    rcases List.append_eq_append_iff.1 he with ⟨x, hx, rfl⟩ | ⟨x, rfl, rfl⟩
    · rcases List.append_eq_append_iff.1 hx with ⟨y, rfl, rfl⟩ | ⟨y, rfl, rfl⟩
      · refine .inr (.inr ⟨⟨c, y, rfl, hc, (al_app.1 hd).1⟩, ⟨e.reverse, x.reverse, by simp, non_rev.2 hee, al_rev.2 (al_app.1 hd).2⟩⟩)
      · exact .inl ⟨(non_app.1 hc).1, ⟨y, d, e, rfl, (non_app.1 hc).2, hd, hee⟩⟩
    · exact .inr (.inl ⟨⟨c, d, x, rfl, hc, hd, (non_app.1 hee).1⟩, (non_app.1 hee).2⟩)
  · rintro (⟨h, c, d, e, rfl, hc, hd, he⟩ | ⟨⟨c, d, e, rfl, hc, hd, he⟩, h⟩ | ⟨⟨c, d, rfl, hc, hd⟩, ⟨e, f, hr, he, hf⟩⟩)
    · exact ⟨a ++ c, d, e, by simp, non_app.2 ⟨h, hc⟩, hd, he⟩
    · exact ⟨c, d, e ++ b, by simp, hc, hd, non_app.2 ⟨he, h⟩⟩
    · obtain rfl : b = f.reverse ++ e.reverse := by rw [← List.reverse_append, ← hr, List.reverse_reverse]
      exact ⟨c, d ++ f.reverse, e.reverse, by simp, hc, al_app.2 ⟨hd, al_rev.2 hf⟩, non_rev.2 he⟩
theorem Fr_ne {t : PT} (h : Ok t) {l : List Nat} (hl : Fr t l) : l ≠ [] := by
  rintro rfl
  exact h.lvs_ne (List.nil_perm.1 (Fr_perm hl))
theorem Fr_zero {t : PT} (h : Ok t) {l : List Nat} (hl : Fr t l) : st S t = 0 ↔ non S l := by
  rw [st_zero h]
  exact ⟨fun h x hx => h x ((Fr_perm hl).mem_iff.1 hx), fun h x hx => h x ((Fr_perm hl).mem_iff.2 hx)⟩
theorem Fr_two {t : PT} (h : Ok t) {l : List Nat} (hl : Fr t l) : st S t = 2 ↔ al S l := by
  rw [st_two h]
  exact ⟨fun h x hx => h x ((Fr_perm hl).mem_iff.1 hx), fun h x hx => h x ((Fr_perm hl).mem_iff.2 hx)⟩
theorem FrL_zero {ks : List PT} (h : ∀ k ∈ ks, Ok k) {l : List Nat} (hl : FrL ks l) : (∀ k ∈ ks, st S k = 0) ↔ non S l := by
  induction ks generalizing l with
  | nil => obtain rfl : l = [] := hl; simp [non]
  | cons k ks ih =>
    obtain ⟨a, b, rfl, ha, hb⟩ := hl
    rw [non_app, ← Fr_zero (h k List.mem_cons_self) ha, ← ih (fun x hx => h x (List.mem_cons_of_mem _ hx)) hb]
    simp
theorem FrL_two {ks : List PT} (h : ∀ k ∈ ks, Ok k) {l : List Nat} (hl : FrL ks l) : (∀ k ∈ ks, st S k = 2) ↔ al S l := by
  induction ks generalizing l with
  | nil => obtain rfl : l = [] := hl; simp [al]
  | cons k ks ih =>
    obtain ⟨a, b, rfl, ha, hb⟩ := hl
    rw [al_app, ← Fr_two (h k List.mem_cons_self) ha, ← ih (fun x hx => h x (List.mem_cons_of_mem _ hx)) hb]
    simp
/-! ## A node in a line -/
/-- What `lin` is to do. -/
def LinOk (S : Nat → Bool) (t : PT) : Prop := ∀ l, (Fr t l ∧ EF S l) ↔ ∃ ts, lin S t = some ts ∧ FrL ts l
theorem linQ_ok {ks : List PT} (h : ∀ k ∈ ks, Ok k) (ih : ∀ k ∈ ks, LinOk S k) :
    ∀ (last : Nat) (l : List Nat), last ≤ 2 → ((FrL ks l ∧ (if last = 0 then EF S l else al S l)) ↔ ∃ ts, linQ S last ks = some ts ∧ FrL ts l) := by
  induction ks with
  | nil =>
    intro last l _
    constructor
    · rintro ⟨hl, _⟩; exact ⟨[], rfl, hl⟩
    · rintro ⟨ts, e, hl⟩
      obtain rfl : [] = ts := by simpa [linQ] using e
      obtain rfl : l = [] := hl
      refine ⟨rfl, ?_⟩
      split
      · exact non_nil.ef
      · exact al_nil
  | cons k ks ihk =>
    intro last l hlast
    have hk := h k List.mem_cons_self
    have hks : ∀ x ∈ ks, Ok x := fun x hx => h x (List.mem_cons_of_mem _ hx)
    have ihs := ihk hks fun x hx => ih x (List.mem_cons_of_mem _ hx)
    have step : ∀ (last' : Nat) (l : List Nat), (∃ ts, (match lin S k with | none => none | some l => (linQ S last' ks).map (l ++ ·)) = some ts ∧ FrL ts l) ↔
        ∃ a b, l = a ++ b ∧ (Fr k a ∧ EF S a) ∧ ∃ us, linQ S last' ks = some us ∧ FrL us b := by
      intro last' l
      constructor
      · rintro ⟨ts, e, hl⟩
        cases hlin : lin S k with
        | none => rw [hlin] at e; cases e
        | some m =>
          rw [hlin] at e
          obtain ⟨us, e1, rfl⟩ := Option.map_eq_some_iff.1 e
          obtain ⟨a, b, rfl, ha, hb⟩ := (FrL_app _ _ _).1 hl
          exact ⟨a, b, rfl, (ih k List.mem_cons_self a).2 ⟨m, hlin, ha⟩, us, e1, hb⟩
      · rintro ⟨a, b, rfl, hka, us, e1, hb⟩
        obtain ⟨m, hlin, ha⟩ := (ih k List.mem_cons_self a).1 hka
        exact ⟨m ++ us, by rw [hlin]; show Option.map _ _ = _; rw [e1]; rfl, (FrL_app _ _ _).2 ⟨a, b, rfl, ha, hb⟩⟩
    rw [linQ]
    have hst := st_le S k
    by_cases c : st S k < last ∨ st S k = 1 ∧ last = 1
    · rw [if_pos c]
      have hl0 : last ≠ 0 := by omega
      rw [if_neg hl0]
      constructor
      · rintro ⟨⟨a, b, rfl, ha, hb⟩, hal⟩
        have := (Fr_two hk ha).2 (al_app.1 hal).1
        omega
      · rintro ⟨ts, e, _⟩; cases e
    · rw [if_neg c]
      refine Iff.trans ?_ (step (st S k) l).symm
      have hq : ∀ (l : List Nat), (FrL ks l ∧ (if st S k = 0 then EF S l else al S l)) ↔ ∃ ts, linQ S (st S k) ks = some ts ∧ FrL ts l := fun l => ihs (st S k) l hst
      constructor
      · rintro ⟨⟨a, b, rfl, ha, hb⟩, hef⟩
        by_cases hl0 : last = 0
        · rw [if_pos hl0] at hef
          by_cases h0 : st S k = 0
          · have hn := (Fr_zero hk ha).1 h0
            have hbe : EF S b := by
              rcases EF_app.1 hef with h | h
              · exact h.2
              · exact h.2.ef
            exact ⟨a, b, rfl, ⟨ha, hn.ef⟩, (hq b).1 ⟨hb, by rw [if_pos h0]; exact hbe⟩⟩
          · rcases EF_app.1 hef with h | h
            · exact absurd ((Fr_zero hk ha).2 h.1) h0
            · exact ⟨a, b, rfl, ⟨ha, h.1⟩, (hq b).1 ⟨hb, by rw [if_neg h0]; exact h.2⟩⟩
        · rw [if_neg hl0] at hef
          obtain ⟨h1, h2⟩ := al_app.1 hef
          have h0 : st S k ≠ 0 := by have := (Fr_two hk ha).2 h1; omega
          exact ⟨a, b, rfl, ⟨ha, h1.ef⟩, (hq b).1 ⟨hb, by rw [if_neg h0]; exact h2⟩⟩
      · rintro ⟨a, b, rfl, ⟨ha, hea⟩, hus⟩
        obtain ⟨hb, hb2⟩ := (hq b).2 hus
        refine ⟨⟨a, b, rfl, ha, hb⟩, ?_⟩
        by_cases hl0 : last = 0
        · rw [if_pos hl0]
          by_cases h0 : st S k = 0
          · rw [if_pos h0] at hb2
            exact EF_app.2 (.inl ⟨(Fr_zero hk ha).1 h0, hb2⟩)
          · rw [if_neg h0] at hb2
            exact EF_app.2 (.inr ⟨hea, hb2⟩)
        · rw [if_neg hl0]
          have h2 : st S k = 2 := by omega
          rw [if_neg (by omega)] at hb2
          exact al_app.2 ⟨(Fr_two hk ha).1 h2, hb2⟩
/-- Kids in a line, in order: first the empty ones, then at most one partial one, then the full ones. -/
theorem FrL_split {ks : List PT} (h : ∀ k ∈ ks, Ok k) : ∀ {l : List Nat}, FrL ks l → EF S l →
    ∃ A M B, ks = A ++ M ++ B ∧ (∀ k ∈ A, st S k = 0) ∧ (∀ k ∈ M, st S k = 1) ∧ M.length ≤ 1 ∧ ∀ k ∈ B, st S k = 2 := by
  induction ks with
  | nil => intro l _ _; exact ⟨[], [], [], rfl, by simp, by simp, by simp, by simp⟩
  | cons k ks ih =>
    rintro l ⟨a, b, rfl, ha, hb⟩ hef
    have hk := h k List.mem_cons_self
    have hks : ∀ x ∈ ks, Ok x := fun x hx => h x (List.mem_cons_of_mem _ hx)
    by_cases h0 : st S k = 0
    · have hbe : EF S b := by
        rcases EF_app.1 hef with h | h
        · exact h.2
        · exact h.2.ef
      obtain ⟨A, M, B, rfl, h1, h2, h3, h4⟩ := ih hks hb hbe
      exact ⟨k :: A, M, B, rfl, by simpa [h0] using h1, h2, h3, h4⟩
    · rcases EF_app.1 hef with h' | h'
      · exact absurd ((Fr_zero hk ha).2 h'.1) h0
      · have h2 := (FrL_two hks hb).2 h'.2
        by_cases h22 : st S k = 2
        · exact ⟨[], [], k :: ks, rfl, by simp, by simp, by simp, by simpa [h22] using h2⟩
        · have := st_le S k
          exact ⟨[], [k], ks, rfl, by simp, by simp; omega, by simp, h2⟩
end Go.Fw.Pq

/- Chapter 28: a partial node in a line (lin), and reducing (red): exactly the orders in which the row is consecutive. -/
namespace Go.Fw.Pq
open Go
variable {S : Nat → Bool}
theorem by_cons (s : Nat) (k : PT) (ks : List PT) : by_ S s (k :: ks) = if st S k = s then k :: by_ S s ks else by_ S s ks := by
  unfold by_
  rw [List.filter_cons]
  by_cases h : st S k = s <;> simp [h]
theorem by_app (s : Nat) (A B : List PT) : by_ S s (A ++ B) = by_ S s A ++ by_ S s B := by unfold by_; rw [List.filter_append]
theorem by_all {s : Nat} {A : List PT} (h : ∀ k ∈ A, st S k = s) : by_ S s A = A := by
  unfold by_
  rw [List.filter_eq_self]
  intro k hk; simp [h k hk]
theorem by_none {s s' : Nat} {A : List PT} (h : ∀ k ∈ A, st S k = s) (hs : s ≠ s') : by_ S s' A = [] := by
  unfold by_
  rw [List.filter_eq_nil_iff]
  intro k hk; simp [h k hk, hs]
theorem by_perm (s : Nat) {A B : List PT} (h : A.Perm B) : (by_ S s A).Perm (by_ S s B) := h.filter _
theorem by_mem {s : Nat} {A : List PT} {k : PT} : k ∈ by_ S s A ↔ k ∈ A ∧ st S k = s := by unfold by_; simp
/-- All kids, by their states. -/
theorem by_three (ks : List PT) : (by_ S 0 ks ++ by_ S 1 ks ++ by_ S 2 ks).Perm ks := by
  induction ks with
  | nil => exact .refl _
  | cons k ks ih =>
    have h := st_le S k
    rw [by_cons, by_cons, by_cons]
    rcases (by omega : st S k = 0 ∨ st S k = 1 ∨ st S k = 2) with e | e | e
    · rw [if_pos e, if_neg (by omega), if_neg (by omega)]
      exact ih.cons k
    · rw [if_neg (by omega), if_pos e, if_neg (by omega)]
      refine List.Perm.trans ?_ (ih.cons k)
      rw [List.append_assoc, List.append_assoc]
      exact List.perm_middle
    · rw [if_neg (by omega), if_neg (by omega), if_pos e]
      refine List.Perm.trans ?_ (ih.cons k)
      exact List.perm_middle
theorem perm_le_one {α : Type} {l m : List α} (h : l.Perm m) (hl : l.length ≤ 1) : m = l := by
  match l, hl with
  | [], _ => exact List.nil_perm.1 h
  | [x], _ => exact List.singleton_perm.1 h |>.symm
theorem st_part {q : Bool} {ks : List PT} (h : st S (.nd q ks) = 1) {s : Nat} (hs : ∀ k ∈ ks, st S k = s) : s = 1 := by
  rw [st_nd] at h
  match ks, hs, h with
  | [], _, h => simp [comb] at h
  | k :: ks, hs, h =>
    rw [List.map_cons, comb] at h
    split at h
    · rw [← h]; exact (hs k List.mem_cons_self).symm
    · rename_i hn
      exfalso; apply hn
      simp only [List.all_eq_true, beq_iff_eq]
      intro x hx
      obtain ⟨y, hy, rfl⟩ := List.mem_map.1 hx
      rw [hs y (List.mem_cons_of_mem _ hy), hs k List.mem_cons_self]
/-- In an order with all of the row at the end a partial node in a line has its lesser state first. -/
theorem line_dir {ks : List PT} (h : ∀ k ∈ ks, Ok k) (h2 : 2 ≤ ks.length) {q : Bool} (hp : st S (.nd q ks) = 1) {l : List Nat} (hl : FrL ks l) (he : EF S l) :
    st S (ks.headD default) < st S (ks.getLastD default) := by
  obtain ⟨A, M, B, rfl, hA, hM, hM1, hB⟩ := FrL_split h hl he
  match A, M, B with
  | a :: A, M, B =>
    have e1 : st S ((a :: A ++ M ++ B).headD default) = 0 := hA a List.mem_cons_self
    rw [e1]
    rcases List.eq_nil_or_concat (M ++ B) with e | ⟨L, b, e⟩
    · exfalso
      obtain ⟨rfl, rfl⟩ := List.append_eq_nil_iff.1 e
      have := st_part (S := S) (q := q) (ks := a :: A ++ [] ++ []) hp (s := 0) (by simpa using hA)
      omega
    · rw [List.append_assoc, e, List.concat_eq_append, ← List.append_assoc, List.getLastD_concat]
      have hb : b ∈ M ++ B := by rw [e]; simp
      rcases List.mem_append.1 hb with hb | hb
      · rw [hM b hb]; omega
      · rw [hB b hb]; omega
  | [], m :: M, B =>
    have hm0 : M = [] := by simp at hM1; exact hM1
    subst hm0
    match B with
    | [] => simp at h2
    | b :: B =>
      rcases List.eq_nil_or_concat (b :: B) with e | ⟨L, c, e⟩
      · cases e
      · have hc : c ∈ b :: B := by rw [e]; simp
        rw [e, List.nil_append, List.concat_eq_append, ← List.append_assoc, List.getLastD_concat, hB c hc]
        show st S m < 2
        rw [hM m List.mem_cons_self]; omega
  | [], [], B =>
    exfalso
    have := st_part (S := S) (q := q) (ks := [] ++ [] ++ B) hp (s := 2) (by simpa using hB)
    omega
theorem headD_rev (ks : List PT) : ks.reverse.headD default = ks.getLastD default := by
  rcases List.eq_nil_or_concat ks with rfl | ⟨L, b, rfl⟩
  · rfl
  · rw [List.concat_eq_append, List.getLastD_concat, List.reverse_append]; rfl
theorem lastD_rev (ks : List PT) : ks.reverse.getLastD default = ks.headD default := by
  rw [← headD_rev, List.reverse_reverse]
theorem lin_ok {t : PT} (h : Ok t) : LinOk S t := by
  induction t using PT.ind with
  | h1 n =>
    intro l
    rw [lin_one (leaf_st S n)]
    constructor
    · rintro ⟨hl, _⟩; exact ⟨_, rfl, (FrL_one _ _).2 hl⟩
    · rintro ⟨ts, e, hl⟩
      cases e
      have hl := (FrL_one _ _).1 hl
      obtain rfl : l = [n] := hl
      refine ⟨rfl, ?_⟩
      cases hS : S n with
      | true => exact al.ef (fun x hx => by rw [List.mem_singleton.1 hx]; exact hS)
      | false => exact non.ef (fun x hx => by rw [List.mem_singleton.1 hx]; exact hS)
  | h2 q ks ih =>
    have hk := h.kids
    have ih' : ∀ k ∈ ks, LinOk S k := fun k hk' => ih k hk' (hk k hk')
    by_cases hp : st S (.nd q ks) = 1
    · cases q with
      | true =>
        rw [LinOk]
        intro l
        rw [lin_Q hp, Fr_Q]
        have h3 := h.two
        by_cases c : turnQ S ks = true
        · rw [if_pos c]
          have hlt : st S (ks.getLastD default) < st S (ks.headD default) := of_decide_eq_true c
          have hq := linQ_ok (S := S) (ks := ks.reverse) (fun k hk' => hk k (List.mem_reverse.1 hk')) (fun k hk' => ih' k (List.mem_reverse.1 hk')) 0 l (by omega)
          rw [if_pos rfl] at hq
          rw [← hq]
          constructor
          · rintro ⟨hl | hl, he⟩
            · have := line_dir hk h3 hp hl he
              omega
            · exact ⟨hl, he⟩
          · rintro ⟨hl, he⟩; exact ⟨.inr hl, he⟩
        · rw [if_neg c]
          have hlt : ¬ st S (ks.getLastD default) < st S (ks.headD default) := fun e => c (decide_eq_true e)
          have hq := linQ_ok (S := S) (ks := ks) hk ih' 0 l (by omega)
          rw [if_pos rfl] at hq
          rw [← hq]
          constructor
          · rintro ⟨hl | hl, he⟩
            · exact ⟨hl, he⟩
            · have hp' : st S (.nd true ks.reverse) = 1 := by
                have hle := st_le S (.nd true ks.reverse)
                have hkr : ∀ k ∈ ks.reverse, Ok k := fun k hk' => hk k (List.mem_reverse.1 hk')
                have hne : ks ≠ [] := by rintro rfl; simp at h3
                have a0 : st S (.nd true ks.reverse) ≠ 0 := by
                  rw [st_nd, Ne, comb_zero (by simpa using hne)]
                  intro h0
                  have : st S (.nd true ks) = 0 := by rw [st_nd, comb_zero (by simpa using hne)]; simpa using h0
                  omega
                have a2 : st S (.nd true ks.reverse) ≠ 2 := by
                  rw [st_nd, Ne, comb_two (by simpa using hne)]
                  intro h0
                  have : st S (.nd true ks) = 2 := by rw [st_nd, comb_two (by simpa using hne)]; simpa using h0
                  omega
                omega
              have := line_dir (fun k hk' => hk k (List.mem_reverse.1 hk')) (by simpa using h3) hp' hl he
              rw [headD_rev, lastD_rev] at this
              omega
          · rintro ⟨hl, he⟩; exact ⟨.inl hl, he⟩
      | false =>
        intro l
        rw [lin_P hp, Fr_P]
        constructor
        · rintro ⟨⟨ks', hperm, hl⟩, he⟩
          have hk' : ∀ k ∈ ks', Ok k := fun k h' => hk k (hperm.mem_iff.1 h')
          obtain ⟨A, M, B, rfl, hA, hM, hM1, hB⟩ := FrL_split hk' hl he
          have p0 := by_perm (S := S) 0 hperm
          have p1 := by_perm (S := S) 1 hperm
          have p2 := by_perm (S := S) 2 hperm
          rw [by_app, by_app, by_all hA, by_none hM (by omega), by_none hB (by omega), List.append_nil, List.append_nil] at p0
          rw [by_app, by_app, by_none hA (by omega), by_all hM, by_none hB (by omega), List.nil_append, List.append_nil] at p1
          rw [by_app, by_app, by_none hA (by omega), by_none hM (by omega), by_all hB, List.nil_append, List.nil_append] at p2
          rw [perm_le_one p1 hM1]
          obtain ⟨ab, b, rfl, hab, hb⟩ := (FrL_app _ _ _).1 hl
          obtain ⟨a, m, rfl, ha, hm⟩ := (FrL_app _ _ _).1 hab
          have ga := (FrL_grp (by_ S 0 ks) a).2 ⟨A, p0, ha⟩
          have gb := (FrL_grp (by_ S 2 ks) b).2 ⟨B, p2, hb⟩
          match M, hM1, hM, hm, p1 with
          | [], _, _, hm, _ =>
            obtain rfl : m = [] := hm
            exact ⟨_, rfl, (FrL_app _ _ _).2 ⟨a, b, by simp, ga, gb⟩⟩
          | [k], _, hM, hm, p1 =>
            have hm' := (FrL_one _ _).1 hm
            have hkm : k ∈ ks := (by_mem.1 (p1.mem_iff.1 List.mem_cons_self)).1
            have hem : EF S m := by
              have hkk := hk k hkm
              have hst := hM k List.mem_cons_self
              rcases EF_app.1 he with h' | h'
              · exact absurd ((Fr_zero hkk hm').2 (non_app.1 h'.1).2) (by omega)
              · rcases EF_app.1 h'.1 with h'' | h''
                · exact h''.2
                · exact h''.2.ef
            obtain ⟨ts, e1, e2⟩ := (ih' k hkm m).1 ⟨hm', hem⟩
            refine ⟨grp (by_ S 0 ks) ++ ts ++ grp (by_ S 2 ks), by show Option.map _ _ = _; rw [e1]; rfl, (FrL_app _ _ _).2 ⟨a ++ m, b, rfl, (FrL_app _ _ _).2 ⟨a, m, rfl, ga, e2⟩, gb⟩⟩
        · rintro ⟨ts, e, hl⟩
          have hA : ∀ k ∈ by_ S 0 ks, st S k = 0 := fun k h' => (by_mem.1 h').2
          have hB : ∀ k ∈ by_ S 2 ks, st S k = 2 := fun k h' => (by_mem.1 h').2
          have okA : ∀ k ∈ by_ S 0 ks, Ok k := fun k h' => hk k (by_mem.1 h').1
          have okB : ∀ k ∈ by_ S 2 ks, Ok k := fun k h' => hk k (by_mem.1 h').1
          have three := by_three (S := S) ks
          have fin : ∀ (M : List PT) (a m b : List Nat), by_ S 1 ks = M → FrL (grp (by_ S 0 ks)) a → FrL M m → EF S m → FrL (grp (by_ S 2 ks)) b →
              (∃ ks', ks'.Perm ks ∧ FrL ks' (a ++ m ++ b)) ∧ EF S (a ++ m ++ b) := by
            intro M a m b hM ha hm hem hb
            obtain ⟨A, pA, ha⟩ := (FrL_grp _ _).1 ha
            obtain ⟨B, pB, hb⟩ := (FrL_grp _ _).1 hb
            have na : non S a := (FrL_zero (fun k h' => okA k (pA.mem_iff.1 h')) ha).1 fun k h' => hA k (pA.mem_iff.1 h')
            have ab : al S b := (FrL_two (fun k h' => okB k (pB.mem_iff.1 h')) hb).1 fun k h' => hB k (pB.mem_iff.1 h')
            refine ⟨⟨A ++ M ++ B, ?_, (FrL_app _ _ _).2 ⟨a ++ m, b, rfl, (FrL_app _ _ _).2 ⟨a, m, rfl, ha, hm⟩, hb⟩⟩, EF_app.2 (.inr ⟨EF_app.2 (.inl ⟨na, hem⟩), ab⟩)⟩
            subst hM
            exact ((pA.append_right _).append pB).trans three
          match hM : by_ S 1 ks, e with
          | [], e =>
            obtain rfl := Option.some.inj e
            obtain ⟨a, b, rfl, ha, hb⟩ := (FrL_app _ _ _).1 hl
            have := fin [] a [] b hM ha rfl non_nil.ef hb
            simpa using this
          | [k], e =>
            obtain ⟨us, e1, rfl⟩ := Option.map_eq_some_iff.1 e
            obtain ⟨am, b, rfl, ham, hb⟩ := (FrL_app _ _ _).1 hl
            obtain ⟨a, m, rfl, ha, hm⟩ := (FrL_app _ _ _).1 ham
            have hkm : k ∈ ks := (by_mem.1 (show k ∈ by_ S 1 ks from by rw [hM]; exact List.mem_cons_self)).1
            obtain ⟨hm', hem⟩ := (ih' k hkm m).2 ⟨us, e1, hm⟩
            exact fin [k] a m b hM ha ((FrL_one _ _).2 hm') hem hb
          | _ :: _ :: _, e => cases e
    · intro l
      rw [lin_one hp]
      constructor
      · rintro ⟨hl, _⟩; exact ⟨_, rfl, (FrL_one _ _).2 hl⟩
      · rintro ⟨ts, e, hl⟩
        cases e
        have hl := (FrL_one _ _).1 hl
        refine ⟨hl, ?_⟩
        have := st_le S (.nd q ks)
        rcases (by omega : st S (.nd q ks) = 0 ∨ st S (.nd q ks) = 2) with e | e
        · exact ((Fr_zero h hl).1 e).ef
        · exact ((Fr_two h hl).1 e).ef
end Go.Fw.Pq

/- Chapter 28: reducing a tree keeps exactly the orders in which the row is consecutive. -/
namespace Go.Fw.Pq
open Go
variable {S : Nat → Bool}
theorem EF.cn {l : List Nat} (h : EF S l) : Cn S l := Cn_iff.2 ⟨l, [], by simp, h, non_nil⟩
theorem non.cn {l : List Nat} (h : non S l) : Cn S l := h.ef.cn
theorem Cn.right {a m : List Nat} (h : Cn S (a ++ m)) : Cn S m := by
  rcases Cn_app.1 h with h | h | h
  · exact h.2
  · exact h.2.cn
  · exact Cn_rev.1 h.2.cn
theorem Cn.left {m b : List Nat} (h : Cn S (m ++ b)) : Cn S m := by
  rcases Cn_app.1 h with h | h | h
  · exact h.1.cn
  · exact h.1
  · exact h.1.cn
theorem Cn_outer {a m b : List Nat} (ha : non S a) (hb : non S b) : Cn S (a ++ m ++ b) ↔ Cn S m :=
  ⟨fun h => h.left.right, fun h => Cn_app.2 (.inr (.inl ⟨Cn_app.2 (.inl ⟨ha, h⟩), hb⟩))⟩
theorem Cn_mid {x m y : List Nat} (hx : ¬ non S x) (hy : ¬ non S y) : Cn S (x ++ (m ++ y)) ↔ EF S x ∧ al S m ∧ EF S y.reverse := by
  rw [Cn_app, List.reverse_append, EF_app, al_rev, non_rev]
  constructor
  · rintro (h | h | h)
    · exact absurd h.1 hx
    · exact absurd (non_app.1 h.2).2 hy
    · rcases h.2 with h' | h'
      · exact absurd h'.1 hy
      · exact ⟨h.1, h'.2, h'.1⟩
  · rintro ⟨h1, h2, h3⟩
    exact .inr (.inr ⟨h1, .inr ⟨h3, h2⟩⟩)
/-! ## Kids with something of the row -/
def Zs (S : Nat → Bool) (A : List PT) : Prop := ∀ k ∈ A, st S k = 0
theorem some_app (A B : List PT) : some_ S (A ++ B) = some_ S A + some_ S B := by unfold some_; rw [List.filter_append, List.length_append]
theorem some_cons (k : PT) (A : List PT) : some_ S (k :: A) = (if st S k = 0 then 0 else 1) + some_ S A := by
  unfold some_
  rw [List.filter_cons]
  by_cases h : st S k = 0
  · simp [h]
  · simp [h]; omega
theorem some_zero {A : List PT} : some_ S A = 0 ↔ Zs S A := by
  unfold some_ Zs
  rw [List.length_eq_zero_iff, List.filter_eq_nil_iff]
  simp
theorem some_perm {A B : List PT} (h : A.Perm B) : some_ S A = some_ S B := (h.filter _).length_eq
theorem first_split : ∀ {ks : List PT}, some_ S ks ≠ 0 → ∃ A x R, ks = A ++ x :: R ∧ Zs S A ∧ st S x ≠ 0
  | [], h => absurd rfl h
  | k :: ks, h => by
    by_cases h0 : st S k = 0
    · rw [some_cons, if_pos h0, Nat.zero_add] at h
      obtain ⟨A, x, R, rfl, h1, h2⟩ := first_split h
      exact ⟨k :: A, x, R, rfl, by intro y hy; rcases List.mem_cons.1 hy with rfl | hy; exact h0; exact h1 y hy, h2⟩
    · exact ⟨[], k, ks, rfl, (fun _ h => by cases h), h0⟩
theorem last_split {ks : List PT} (h : some_ S ks ≠ 0) : ∃ M y B, ks = M ++ y :: B ∧ Zs S B ∧ st S y ≠ 0 := by
  have h' : some_ S ks.reverse ≠ 0 := by rw [some_perm (List.reverse_perm ks)]; exact h
  obtain ⟨A, x, R, e, h1, h2⟩ := first_split h'
  refine ⟨R.reverse, x, A.reverse, ?_, fun k hk => h1 k (List.mem_reverse.1 hk), h2⟩
  rw [← List.reverse_reverse ks, e]; simp
theorem one_split {ks : List PT} (h : some_ S ks = 1) : ∃ A x B, ks = A ++ x :: B ∧ Zs S A ∧ Zs S B ∧ st S x ≠ 0 := by
  obtain ⟨A, x, R, rfl, h1, h2⟩ := first_split (S := S) (ks := ks) (by omega)
  refine ⟨A, x, R, rfl, h1, some_zero.1 ?_, h2⟩
  rw [some_app, some_cons, if_neg h2] at h
  omega
theorem two_split {ks : List PT} (h : 2 ≤ some_ S ks) : ∃ A x M y B, ks = A ++ x :: (M ++ y :: B) ∧ Zs S A ∧ Zs S B ∧ st S x ≠ 0 ∧ st S y ≠ 0 := by
  obtain ⟨A, x, R, rfl, h1, h2⟩ := first_split (S := S) (ks := ks) (by omega)
  rw [some_app, some_cons, if_neg h2, some_zero.2 h1] at h
  obtain ⟨M, y, B, rfl, h3, h4⟩ := last_split (S := S) (ks := R) (by omega)
  exact ⟨A, x, M, y, B, rfl, h1, h3, h2, h4⟩
theorem findIdx_at {p : PT → Bool} : ∀ {A : List PT} {x : PT} {R : List PT}, (∀ k ∈ A, p k = false) → p x = true → (A ++ x :: R).findIdx p = A.length
  | [], x, R, _, h => by rw [List.nil_append, List.findIdx_cons, h]; rfl
  | a :: A, x, R, ha, h => by
    rw [List.cons_append, List.findIdx_cons, ha a List.mem_cons_self, findIdx_at (fun k hk => ha k (List.mem_cons_of_mem _ hk)) h]; rfl
theorem firstI_at {A R : List PT} {x : PT} (hA : Zs S A) (hx : st S x ≠ 0) : firstI S (A ++ x :: R) = A.length :=
  findIdx_at (fun k hk => by simp [hA k hk]) (by simpa using hx)
theorem lastI_at {M B : List PT} {y : PT} (hB : Zs S B) (hy : st S y ≠ 0) : lastI S (M ++ y :: B) = M.length := by
  unfold lastI
  rw [show (M ++ y :: B).reverse = B.reverse ++ y :: M.reverse from by simp, findIdx_at (fun k hk => by simp [hB k (List.mem_reverse.1 hk)]) (by simpa using hy)]
  simp only [List.length_append, List.length_cons, List.length_reverse]; omega
theorem Zs.non {A : List PT} (ok : ∀ k ∈ A, Ok k) (h : Zs S A) {a : List Nat} (ha : FrL A a) : non S a := (FrL_zero ok ha).1 h
/-- What `red` is to do. -/
def RedOk (S : Nat → Bool) (t : PT) : Prop := ∀ l, (Fr t l ∧ Cn S l) ↔ ∃ t', red S t = some t' ∧ Fr t' l
/-- In a list of kids all of the row lies in one. -/
theorem one_ok {A B : List PT} {k : PT} (ok : ∀ x ∈ A ++ k :: B, Ok x) (hA : Zs S A) (hB : Zs S B) (hk : RedOk S k) (l : List Nat) :
    (FrL (A ++ k :: B) l ∧ Cn S l) ↔ ∃ k', red S k = some k' ∧ FrL (A ++ k' :: B) l := by
  constructor
  · rintro ⟨hl, hc⟩
    obtain ⟨a, r, rfl, ha, m, b, rfl, hm, hb⟩ := (FrL_app _ _ _).1 hl
    have na := hA.non (fun x hx => ok x (by simp [hx])) ha
    have nb := hB.non (fun x hx => ok x (by simp [hx])) hb
    rw [← List.append_assoc, Cn_outer na nb] at hc
    obtain ⟨k', e, hm'⟩ := (hk m).1 ⟨hm, hc⟩
    exact ⟨k', e, (FrL_app _ _ _).2 ⟨a, m ++ b, rfl, ha, m, b, rfl, hm', hb⟩⟩
  · rintro ⟨k', e, hl⟩
    obtain ⟨a, r, rfl, ha, m, b, rfl, hm, hb⟩ := (FrL_app _ _ _).1 hl
    have na := hA.non (fun x hx => ok x (by simp [hx])) ha
    have nb := hB.non (fun x hx => ok x (by simp [hx])) hb
    obtain ⟨hm', hc⟩ := (hk m).2 ⟨k', e, hm⟩
    exact ⟨(FrL_app _ _ _).2 ⟨a, m ++ b, rfl, ha, m, b, rfl, hm', hb⟩, by rw [← List.append_assoc, Cn_outer na nb]; exact hc⟩
/-! ## Within a line -/
theorem wthL_skip {f l : Nat} : ∀ (A R : List PT) (i : Nat), (∀ j, i ≤ j → j < i + A.length → ¬ (f < j ∧ j < l) ∧ j ≠ f ∧ j ≠ l) → wthL S f l i (A ++ R) = (wthL S f l (i + A.length) R).map (A ++ ·)
  | [], R, i, _ => by cases h : wthL S f l i R <;> simp [h]
  | k :: A, R, i, h => by
    have h0 := h i (Nat.le_refl i) (by rw [List.length_cons]; omega)
    rw [List.cons_append, wthL, if_neg (fun c => h0.1 ⟨c.1, c.2.1⟩), if_neg (by omega)]
    show Option.map _ (wthL S f l (i + 1) (A ++ R)) = _
    rw [wthL_skip A R (i + 1) (fun j h1 h2 => h j (by omega) (by rw [List.length_cons]; omega)), if_neg h0.2.2, show i + 1 + A.length = i + (k :: A).length from by rw [List.length_cons]; omega]
    cases wthL S f l (i + (k :: A).length) R <;> rfl
theorem wthL_full {f l : Nat} : ∀ (M R : List PT) (i : Nat), (∀ j, i ≤ j → j < i + M.length → f < j ∧ j < l) → wthL S f l i (M ++ R) = if ∀ k ∈ M, st S k = 2 then (wthL S f l (i + M.length) R).map (M ++ ·) else none
  | [], R, i, _ => by cases h : wthL S f l i R <;> simp [h]
  | k :: M, R, i, h => by
    have h0 := h i (Nat.le_refl i) (by rw [List.length_cons]; omega)
    rw [List.cons_append, wthL]
    by_cases h2 : st S k = 2
    · rw [if_neg (fun c => c.2.2 h2), if_neg (by omega)]
      show Option.map _ (wthL S f l (i + 1) (M ++ R)) = _
      rw [wthL_full M R (i + 1) (fun j h1 h2 => h j (by omega) (by rw [List.length_cons]; omega)), if_neg (by omega), show i + 1 + M.length = i + (k :: M).length from by rw [List.length_cons]; omega]
      by_cases h3 : ∀ k ∈ M, st S k = 2
      · rw [if_pos h3, if_pos (by intro x hx; rcases List.mem_cons.1 hx with rfl | hx; exact h2; exact h3 x hx)]
        cases wthL S f l (i + (k :: M).length) R <;> rfl
      · rw [if_neg h3, if_neg (fun c => h3 fun x hx => c x (List.mem_cons_of_mem _ hx))]; rfl
    · rw [if_pos ⟨h0.1, h0.2, h2⟩, if_neg (fun c => h2 (c k List.mem_cons_self))]
theorem wthL_at {A M B : List PT} {x y : PT} : wthL S A.length (A.length + 1 + M.length) 0 (A ++ x :: (M ++ y :: B)) =
    match lin S x with
    | none => none
    | some u => if ∀ k ∈ M, st S k = 2 then match lin S y with
        | none => none
        | some v => some (A ++ (u ++ (M ++ (v.reverse ++ B))))
      else none := by
  rw [wthL_skip A _ 0 (fun j _ hj => by omega), Nat.zero_add, wthL, if_neg (by omega), if_pos (.inl rfl)]
  cases hx : lin S x with
  | none => rfl
  | some u =>
    show Option.map _ (Option.map _ (wthL S A.length (A.length + 1 + M.length) (A.length + 1) (M ++ y :: B))) = _
    rw [if_neg (by omega), wthL_full M _ (A.length + 1) (fun j _ hj => by omega)]
    show _ = if ∀ k ∈ M, st S k = 2 then _ else none
    split
    · rw [wthL, if_neg (by omega), if_pos (.inr rfl)]
      cases hy : lin S y with
      | none => rfl
      | some v =>
        show Option.map _ (Option.map _ (Option.map _ (Option.map _ (wthL S A.length (A.length + 1 + M.length) (A.length + 1 + M.length + 1) B)))) = _
        have := wthL_skip (S := S) (f := A.length) (l := A.length + 1 + M.length) B [] (A.length + 1 + M.length + 1) (fun j _ hj => by omega)
        rw [List.append_nil] at this
        rw [this, if_pos rfl]
        simp [wthL]
    · rfl
theorem wth_ok {A M B : List PT} {x y : PT} (ok : ∀ k ∈ A ++ x :: (M ++ y :: B), Ok k) (hA : Zs S A) (hB : Zs S B) (hx : st S x ≠ 0) (hy : st S y ≠ 0) (l : List Nat) :
    (Fr (.nd true (A ++ x :: (M ++ y :: B))) l ∧ Cn S l) ↔ ∃ t', wth S (A ++ x :: (M ++ y :: B)) = some t' ∧ Fr t' l := by
  have okx : Ok x := ok x (by simp)
  have oky : Ok y := ok y (by simp)
  have okA : ∀ k ∈ A, Ok k := fun k hk => ok k (by simp [hk])
  have okB : ∀ k ∈ B, Ok k := fun k hk => ok k (by simp [hk])
  have okM : ∀ k ∈ M, Ok k := fun k hk => ok k (by simp [hk])
  have hf : firstI S (A ++ x :: (M ++ y :: B)) = A.length := firstI_at hA hx
  have hl : lastI S (A ++ x :: (M ++ y :: B)) = A.length + 1 + M.length := by
    rw [show A ++ x :: (M ++ y :: B) = (A ++ x :: M) ++ y :: B from by simp, lastI_at hB hy]; simp; omega
  have key : ∀ l, (FrL (A ++ x :: (M ++ y :: B)) l ∧ Cn S l) ↔ ∃ ts, wthL S A.length (A.length + 1 + M.length) 0 (A ++ x :: (M ++ y :: B)) = some ts ∧ FrL ts l := by
    intro l
    rw [wthL_at]
    constructor
    · rintro ⟨hl, hc⟩
      obtain ⟨a, r, rfl, ha, u, r2, rfl, hu, hr2⟩ := (FrL_app _ _ _).1 hl
      obtain ⟨m, r3, rfl, hm, v, b, rfl, hv, hb⟩ := (FrL_app _ _ _).1 hr2
      have na := hA.non okA ha
      have nb := hB.non okB hb
      have nu : ¬ non S u := fun e => hx ((Fr_zero okx hu).2 e)
      have nv : ¬ non S v := fun e => hy ((Fr_zero oky hv).2 e)
      rw [show a ++ (u ++ (m ++ (v ++ b))) = a ++ (u ++ (m ++ v)) ++ b from by simp, Cn_outer na nb, Cn_mid nu nv] at hc
      obtain ⟨us, eu, hus⟩ := (lin_ok (S := S) okx u).1 ⟨hu, hc.1⟩
      obtain ⟨vs, ev, hvs⟩ := (lin_ok (S := S) oky v.reverse).1 ⟨Fr_rev hv, hc.2.2⟩
      have hM := (FrL_two okM hm).2 hc.2.1
      refine ⟨A ++ (us ++ (M ++ (vs.reverse ++ B))), by rw [eu]; show (if _ then _ else _) = _; rw [if_pos hM, ev], ?_⟩
      exact (FrL_app _ _ _).2 ⟨a, _, rfl, ha, (FrL_app _ _ _).2 ⟨u, _, rfl, hus, (FrL_app _ _ _).2 ⟨m, _, rfl, hm, (FrL_app _ _ _).2 ⟨v, b, rfl, FrL_rev.2 hvs, hb⟩⟩⟩⟩
    · rintro ⟨ts, e, hl⟩
      cases eu : lin S x with
      | none => rw [eu] at e; cases e
      | some us =>
        rw [eu] at e
        replace e : (if ∀ k ∈ M, st S k = 2 then _ else none) = some ts := e
        by_cases hM : ∀ k ∈ M, st S k = 2
        · rw [if_pos hM] at e
          cases ev : lin S y with
          | none => rw [ev] at e; cases e
          | some vs =>
            rw [ev] at e
            obtain rfl := Option.some.inj e
            obtain ⟨a, r, rfl, ha, h1⟩ := (FrL_app _ _ _).1 hl
            obtain ⟨u, r, rfl, hu, h1⟩ := (FrL_app _ _ _).1 h1
            obtain ⟨m, r, rfl, hm, h1⟩ := (FrL_app _ _ _).1 h1
            obtain ⟨v, b, rfl, hv, hb⟩ := (FrL_app _ _ _).1 h1
            obtain ⟨hu, eu'⟩ := (lin_ok (S := S) okx u).2 ⟨us, eu, hu⟩
            obtain ⟨hv, ev'⟩ := (lin_ok (S := S) oky v.reverse).2 ⟨vs, ev, FrL_rev.1 hv⟩
            have hv := Fr_rev hv
            rw [List.reverse_reverse] at hv
            have na := hA.non okA ha
            have nb := hB.non okB hb
            have nu : ¬ non S u := fun e => hx ((Fr_zero okx hu).2 e)
            have nv : ¬ non S v := fun e => hy ((Fr_zero oky hv).2 e)
            refine ⟨(FrL_app _ _ _).2 ⟨a, _, rfl, ha, u, _, rfl, hu, (FrL_app _ _ _).2 ⟨m, _, rfl, hm, v, b, rfl, hv, hb⟩⟩, ?_⟩
            rw [show a ++ (u ++ (m ++ (v ++ b))) = a ++ (u ++ (m ++ v)) ++ b from by simp, Cn_outer na nb, Cn_mid nu nv]
            exact ⟨eu', (FrL_two okM hm).1 hM, ev'⟩
        · rw [if_neg hM] at e; cases e
  unfold wth
  rw [hf, hl]
  have hh : ∀ ts : List PT, ts ≠ [] → lne ts = [(lne ts).headD default] := by
    intro ts hts
    unfold lne
    split
    · match ts, hts with
      | [t], _ => rfl
      | _ :: _ :: _, _ => rfl
    · rfl
  constructor
  · rintro ⟨h, hc⟩
    rcases (Fr_Q _ _).1 h with h | h
    · obtain ⟨ts, e, hts⟩ := (key l).1 ⟨h, hc⟩
      refine ⟨_, by rw [e]; rfl, ?_⟩
      have hne : ts ≠ [] := by rintro rfl; obtain rfl : l = [] := hts; obtain ⟨a, r, e1, _, u, r2, e2, hu, _⟩ := (FrL_app _ _ _).1 h; have := Fr_ne okx hu; simp [e2] at e1; exact this e1.2.1
      rw [← FrL_one, ← hh ts hne, FrL_lne]
      exact .inl hts
    · have h' := FrL_rev.1 h
      obtain ⟨ts, e, hts⟩ := (key l.reverse).1 ⟨h', Cn_rev.2 hc⟩
      refine ⟨_, by rw [e]; rfl, ?_⟩
      have hne : ts ≠ [] := by rintro rfl; have e0 : l.reverse = [] := hts; rw [e0] at h'; obtain ⟨a, r, e1, _, u, r2, e2, hu, _⟩ := (FrL_app _ _ _).1 h'; have := Fr_ne okx hu; simp [e2] at e1; exact this e1.2.1
      rw [← FrL_one, ← hh ts hne, FrL_lne]
      exact .inr (FrL_rev.2 hts)
  · rintro ⟨t', e, h⟩
    obtain ⟨ts, e1, rfl⟩ := Option.map_eq_some_iff.1 e
    have hne : ts ≠ [] := by
      rintro rfl
      rw [wthL_at] at e1
      cases eu : lin S x with
      | none => rw [eu] at e1; cases e1
      | some us =>
        have hx' := (lin_ok (S := S) okx (lvs x))
        rw [eu] at e1
        replace e1 : (if ∀ k ∈ M, st S k = 2 then _ else none) = some [] := e1
        by_cases hM : ∀ k ∈ M, st S k = 2
        · rw [if_pos hM] at e1
          cases ev : lin S y with
          | none => rw [ev] at e1; cases e1
          | some vs =>
            rw [ev] at e1
            have := Option.some.inj e1
            simp only [List.append_eq_nil_iff] at this
            obtain ⟨rfl, rfl, _⟩ := this
            exact Fr_ne okx ((lin_ok (S := S) okx []).2 ⟨[], eu, rfl⟩).1 rfl
        · rw [if_neg hM] at e1; cases e1
    rw [← FrL_one, ← hh ts hne, FrL_lne] at h
    rcases h with h | h
    · obtain ⟨h1, h2⟩ := (key l).2 ⟨ts, e1, h⟩
      exact ⟨(Fr_Q _ _).2 (.inl h1), h2⟩
    · obtain ⟨h1, h2⟩ := (key l.reverse).2 ⟨ts, e1, FrL_rev.1 h⟩
      exact ⟨(Fr_Q _ _).2 (.inr (FrL_rev.2 h1)), Cn_rev.1 h2⟩
end Go.Fw.Pq

/- Chapter 28: reducing a node whose kids stand in any order; the whole of reducing. -/
namespace Go.Fw.Pq
open Go
variable {S : Nat → Bool}
/-- Kids side by side that have something of the row: the first is full at its end, the last at its beginning, those between are full. -/
def Sides (S : Nat → Bool) (V : List PT) (w : List Nat) : Prop :=
  ∃ x M y u m v, V = x :: (M ++ [y]) ∧ w = u ++ (m ++ v) ∧ Fr x u ∧ FrL M m ∧ Fr y v ∧ EF S u ∧ al S m ∧ EF S v.reverse
theorem Sides.frl {V : List PT} {w : List Nat} (h : Sides S V w) : FrL V w := by
  obtain ⟨x, M, y, u, m, v, rfl, rfl, hu, hm, hv, _⟩ := h
  exact ⟨u, _, rfl, hu, (FrL_app _ _ _).2 ⟨m, v, rfl, hm, (FrL_one _ _).2 hv⟩⟩
theorem Sides.rev {V : List PT} {w : List Nat} (h : Sides S V w) : Sides S V.reverse w.reverse := by
  obtain ⟨x, M, y, u, m, v, rfl, rfl, hu, hm, hv, eu, am, ev⟩ := h
  exact ⟨y, M.reverse, x, v.reverse, m.reverse, u.reverse, by simp, by simp, Fr_rev hv, FrL_rev.2 (by rw [List.reverse_reverse]; exact hm), Fr_rev hu, ev, al_rev.2 am, by rw [List.reverse_reverse]; exact eu⟩
/-- The list that `tog` puts into a line. -/
def togL (S : Nat → Bool) (ks : List PT) : Option (List PT) :=
  match by_ S 1 ks with
  | [] => some (grp (by_ S 2 ks))
  | [a] => (lin S a).map fun l => l ++ grp (by_ S 2 ks)
  | [a, b] => match lin S a, lin S b with
    | some l, some m => some (l ++ grp (by_ S 2 ks) ++ m.reverse)
    | _, _ => none
  | _ => none
theorem tog_togL (ks : List PT) : tog S ks = (togL S ks).map fun l => (grp (by_ S 0 ks ++ lne l)).headD default := rfl
theorem grp_rev {F : List PT} {w : List Nat} (h : FrL (grp F) w) : FrL (grp F) w.reverse := by
  obtain ⟨F', p, h⟩ := (FrL_grp _ _).1 h
  exact (FrL_grp _ _).2 ⟨F'.reverse, (List.reverse_perm _).trans p, FrL_rev.2 (by rw [List.reverse_reverse]; exact h)⟩
theorem perm_two {α : Type} {x y p q : α} (h : [x, y].Perm [p, q]) : (x = p ∧ y = q) ∨ (x = q ∧ y = p) := by
  have hx : x = p ∨ x = q := by simpa using h.mem_iff (a := x).1 List.mem_cons_self
  rcases hx with rfl | rfl
  · exact .inl ⟨rfl, by simpa using List.singleton_perm.1 h.cons_inv⟩
  · exact .inr ⟨rfl, by simpa using List.singleton_perm.1 (h.trans (.swap x p [])).cons_inv⟩
theorem st_mid (k : PT) (h : st S k ≠ 0) : st S k = 1 ∨ st S k = 2 := by have := st_le S k; omega
theorem sides_tog {ks : List PT} (ok : ∀ k ∈ ks, Ok k) (h2 : 2 ≤ some_ S ks) (w : List Nat) :
    (∃ V, V.Perm (by_ S 1 ks ++ by_ S 2 ks) ∧ Sides S V w) ↔ ∃ ts, togL S ks = some ts ∧ (FrL ts w ∨ FrL ts w.reverse) := by
  have ok1 : ∀ k ∈ by_ S 1 ks, Ok k := fun k hk => ok k (by_mem.1 hk).1
  have ok2 : ∀ k ∈ by_ S 2 ks, Ok k := fun k hk => ok k (by_mem.1 hk).1
  have s1 : ∀ k ∈ by_ S 1 ks, st S k = 1 := fun k hk => (by_mem.1 hk).2
  have s2 : ∀ k ∈ by_ S 2 ks, st S k = 2 := fun k hk => (by_mem.1 hk).2
  have hlen : 2 ≤ (by_ S 1 ks).length + (by_ S 2 ks).length := by
    have := some_perm (S := S) (by_three (S := S) ks)
    rw [some_app, some_app, some_zero.2 (fun k hk => (by_mem.1 hk).2)] at this
    have e1 : some_ S (by_ S 1 ks) ≤ (by_ S 1 ks).length := by unfold some_; exact List.length_filter_le _ _
    have e2 : some_ S (by_ S 2 ks) ≤ (by_ S 2 ks).length := by unfold some_; exact List.length_filter_le _ _
    omega
  unfold togL
  generalize hP : by_ S 1 ks = P at *
  generalize hF : by_ S 2 ks = F at *
  constructor
  · rintro ⟨V, hV, x, M, y, u, m, v, rfl, rfl, hu, hm, hv, eu, am, ev⟩
    have okV : ∀ k ∈ x :: (M ++ [y]), Ok k := fun k hk => (List.mem_append.1 (hV.mem_iff.1 hk)).elim (ok1 k) (ok2 k)
    have okx := okV x List.mem_cons_self
    have oky := okV y (by simp)
    have okM : ∀ k ∈ M, Ok k := fun k hk => okV k (by simp [hk])
    have sV : ∀ k ∈ x :: (M ++ [y]), st S k ≠ 0 := fun k hk => (List.mem_append.1 (hV.mem_iff.1 hk)).elim (fun h => by rw [s1 k h]; omega) (fun h => by rw [s2 k h]; omega)
    have hM2 : ∀ k ∈ M, st S k = 2 := (FrL_two okM hm).2 am
    have p1 := by_perm (S := S) 1 hV
    have p2 := by_perm (S := S) 2 hV
    rw [by_app, by_all s1, by_none s2 (by omega), List.append_nil, by_cons, by_app, by_none hM2 (by omega), List.nil_append] at p1
    rw [by_app, by_none s1 (by omega), by_all s2, List.nil_append, by_cons, by_app, by_all hM2] at p2
    have hb1 : by_ S 1 [y] = if st S y = 1 then [y] else [] := by rw [by_cons]; rfl
    have hb2 : by_ S 2 [y] = if st S y = 2 then [y] else [] := by rw [by_cons]; rfl
    rw [hb1] at p1
    rw [hb2] at p2
    rcases st_mid x (sV x List.mem_cons_self) with hx | hx <;> rcases st_mid y (sV y (by simp)) with hy | hy
    · rw [if_pos hx, if_pos hy] at p1
      rw [if_neg (by omega), if_neg (by omega), List.append_nil] at p2
      have hgm := (FrL_grp F m).2 ⟨M, p2, hm⟩
      match P, p1 with
      | [p, q], p1 =>
        rcases perm_two p1 with ⟨rfl, rfl⟩ | ⟨rfl, rfl⟩
        · obtain ⟨us, e1, hus⟩ := (lin_ok (S := S) okx u).1 ⟨hu, eu⟩
          obtain ⟨vs, e2, hvs⟩ := (lin_ok (S := S) oky v.reverse).1 ⟨Fr_rev hv, ev⟩
          refine ⟨us ++ grp F ++ vs.reverse, by simp only [e1, e2], .inl ?_⟩
          exact (FrL_app _ _ _).2 ⟨u ++ m, v, by simp, (FrL_app _ _ _).2 ⟨u, m, rfl, hus, hgm⟩, FrL_rev.2 hvs⟩
        · obtain ⟨us, e1, hus⟩ := (lin_ok (S := S) okx u).1 ⟨hu, eu⟩
          obtain ⟨vs, e2, hvs⟩ := (lin_ok (S := S) oky v.reverse).1 ⟨Fr_rev hv, ev⟩
          refine ⟨vs ++ grp F ++ us.reverse, by simp only [e1, e2], .inr ?_⟩
          exact (FrL_app _ _ _).2 ⟨v.reverse ++ m.reverse, u.reverse, by simp, (FrL_app _ _ _).2 ⟨_, _, rfl, hvs, grp_rev hgm⟩, FrL_rev.2 (by rw [List.reverse_reverse]; exact hus)⟩
      | [], p1 => exact absurd p1.length_eq (by simp)
      | [_], p1 => exact absurd p1.length_eq (by simp)
      | _ :: _ :: _ :: _, p1 => exact absurd p1.length_eq (by simp)
    · rw [if_pos hx, if_neg (by omega)] at p1
      rw [if_neg (by omega), if_pos hy] at p2
      obtain rfl := List.singleton_perm.1 p1 |>.symm
      obtain ⟨us, e1, hus⟩ := (lin_ok (S := S) okx u).1 ⟨hu, eu⟩
      refine ⟨us ++ grp F, by simp only [e1, Option.map_some], .inl ?_⟩
      exact (FrL_app _ _ _).2 ⟨u, m ++ v, rfl, hus, (FrL_grp _ _).2 ⟨M ++ [y], p2, (FrL_app _ _ _).2 ⟨m, v, rfl, hm, (FrL_one _ _).2 hv⟩⟩⟩
    · rw [if_neg (by omega), if_pos hy] at p1
      rw [if_pos hx, if_neg (by omega), List.append_nil] at p2
      obtain rfl := List.singleton_perm.1 p1 |>.symm
      obtain ⟨vs, e2, hvs⟩ := (lin_ok (S := S) oky v.reverse).1 ⟨Fr_rev hv, ev⟩
      refine ⟨vs ++ grp F, by simp only [e2, Option.map_some], .inr ?_⟩
      have := grp_rev ((FrL_grp F (u ++ m)).2 ⟨x :: M, p2, u, m, rfl, hu, hm⟩)
      exact (FrL_app _ _ _).2 ⟨v.reverse, (u ++ m).reverse, by simp, hvs, this⟩
    · rw [if_neg (by omega), if_neg (by omega)] at p1
      rw [if_pos hx, if_pos hy] at p2
      obtain rfl := List.nil_perm.1 p1
      refine ⟨grp F, rfl, .inl ?_⟩
      exact (FrL_grp _ _).2 ⟨x :: (M ++ [y]), p2, u, m ++ v, rfl, hu, (FrL_app _ _ _).2 ⟨m, v, rfl, hm, (FrL_one _ _).2 hv⟩⟩
  · have fwd : ∀ ts w, (match P with
        | [] => some (grp F)
        | [a] => (lin S a).map fun l => l ++ grp F
        | [a, b] => match lin S a, lin S b with
          | some l, some m => some (l ++ grp F ++ m.reverse)
          | _, _ => none
        | _ => none) = some ts → FrL ts w → ∃ V, V.Perm (P ++ F) ∧ Sides S V w := by
      intro ts w e h
      match P, e, ok1, hlen with
      | [], e, _, hlen =>
        obtain rfl := Option.some.inj e
        obtain ⟨F', pF, h⟩ := (FrL_grp _ _).1 h
        have okF : ∀ k ∈ F', Ok k := fun k hk => ok2 k (pF.mem_iff.1 hk)
        have sF : ∀ k ∈ F', st S k = 2 := fun k hk => s2 k (pF.mem_iff.1 hk)
        have hl := pF.length_eq
        match F', pF, h, okF, sF, hl with
        | [], _, _, _, _, hl => simp at hl hlen; omega
        | x :: R, pF, h, okF, sF, hl =>
          rcases List.eq_nil_or_concat R with rfl | ⟨M, y, rfl⟩
          · simp at hl hlen; omega
          · rw [List.concat_eq_append] at *
            obtain ⟨u, r, rfl, hu, hr⟩ := h
            obtain ⟨m, v, rfl, hm, hv⟩ := (FrL_app _ _ _).1 hr
            have hv := (FrL_one _ _).1 hv
            refine ⟨_, pF, x, M, y, u, m, v, rfl, rfl, hu, hm, hv, ?_, ?_, ?_⟩
            · exact ((Fr_two (okF x (by simp)) hu).1 (sF x (by simp))).ef
            · exact (FrL_two (fun k hk => okF k (by simp [hk])) hm).1 fun k hk => sF k (by simp [hk])
            · exact (al_rev.2 ((Fr_two (okF y (by simp)) hv).1 (sF y (by simp)))).ef
      | [p], e, ok1, hlen =>
        obtain ⟨us, e1, rfl⟩ := Option.map_eq_some_iff.1 e
        obtain ⟨u, r, rfl, hus, h⟩ := (FrL_app _ _ _).1 h
        obtain ⟨F', pF, h⟩ := (FrL_grp _ _).1 h
        obtain ⟨hu, eu⟩ := (lin_ok (S := S) (ok1 p List.mem_cons_self) u).2 ⟨us, e1, hus⟩
        have okF : ∀ k ∈ F', Ok k := fun k hk => ok2 k (pF.mem_iff.1 hk)
        have sF : ∀ k ∈ F', st S k = 2 := fun k hk => s2 k (pF.mem_iff.1 hk)
        have hl := pF.length_eq
        rcases List.eq_nil_or_concat F' with rfl | ⟨M, y, rfl⟩
        · simp at hl hlen; omega
        · rw [List.concat_eq_append] at *
          obtain ⟨m, v, rfl, hm, hv⟩ := (FrL_app _ _ _).1 h
          have hv := (FrL_one _ _).1 hv
          refine ⟨p :: (M ++ [y]), pF.cons p, p, M, y, u, m, v, rfl, rfl, hu, hm, hv, eu, ?_, ?_⟩
          · exact (FrL_two (fun k hk => okF k (by simp [hk])) hm).1 fun k hk => sF k (by simp [hk])
          · exact (al_rev.2 ((Fr_two (okF y (by simp)) hv).1 (sF y (by simp)))).ef
      | [p, q], e, ok1, _ =>
        cases e1 : lin S p with
        | none => simp only [e1] at e; cases e
        | some us =>
          cases e2 : lin S q with
          | none => simp only [e1, e2] at e; cases e
          | some vs =>
            simp only [e1, e2] at e
            obtain rfl := Option.some.inj e
            obtain ⟨um, v, rfl, hum, hv⟩ := (FrL_app _ _ _).1 h
            obtain ⟨u, m, rfl, hus, hm⟩ := (FrL_app _ _ _).1 hum
            obtain ⟨M, pF, hm⟩ := (FrL_grp _ _).1 hm
            obtain ⟨hu, eu⟩ := (lin_ok (S := S) (ok1 p List.mem_cons_self) u).2 ⟨us, e1, hus⟩
            obtain ⟨hv, ev⟩ := (lin_ok (S := S) (ok1 q (by simp)) v.reverse).2 ⟨vs, e2, FrL_rev.1 hv⟩
            have hv := Fr_rev hv
            rw [List.reverse_reverse] at hv
            refine ⟨p :: (M ++ [q]), ?_, p, M, q, u, m, v, rfl, by simp, hu, hm, hv, eu, ?_, ev⟩
            · refine List.Perm.trans (List.Perm.cons p ?_) (List.Perm.refl ([p, q] ++ F))
              exact (pF.append_right [q]).trans (List.perm_append_comm)
            · exact (FrL_two (fun k hk => ok2 k (pF.mem_iff.1 hk)) hm).1 fun k hk => s2 k (pF.mem_iff.1 hk)
      | _ :: _ :: _ :: _, e, _, _ => cases e
    rintro ⟨ts, e, h | h⟩
    · exact fwd ts w e h
    · obtain ⟨V, pV, hV⟩ := fwd ts w.reverse e h
      refine ⟨V.reverse, (List.reverse_perm V).trans pV, ?_⟩
      have := hV.rev
      rwa [List.reverse_reverse] at this
theorem lne_one {ts : List PT} (hts : ts ≠ []) : lne ts = [(lne ts).headD default] := by
  unfold lne
  split
  · match ts, hts with
    | [t], _ => rfl
    | _ :: _ :: _, _ => rfl
  · rfl
theorem grp_one {ts : List PT} (hts : ts ≠ []) : grp ts = [(grp ts).headD default] := by
  match ts, hts with
  | [t], _ => rfl
  | _ :: _ :: _, _ => rfl
theorem tog_ok {ks : List PT} (ok : ∀ k ∈ ks, Ok k) (h2 : 2 ≤ some_ S ks) (l : List Nat) :
    (Fr (.nd false ks) l ∧ Cn S l) ↔ ∃ t', tog S ks = some t' ∧ Fr t' l := by
  have okV : ∀ V : List PT, V.Perm (by_ S 1 ks ++ by_ S 2 ks) → ∀ k ∈ V, Ok k := fun V hV k hk => by
    rcases List.mem_append.1 (hV.mem_iff.1 hk) with h | h
    · exact ok k (by_mem.1 h).1
    · exact ok k (by_mem.1 h).1
  have hne : ∀ ts, togL S ks = some ts → ts ≠ [] := by
    rintro ts e rfl
    obtain ⟨V, pV, hV⟩ := (sides_tog (S := S) ok h2 []).2 ⟨[], e, .inl rfl⟩
    have := okV V pV
    obtain ⟨x, M, y, u, m, v, rfl, e1, hu, _⟩ := hV
    have hu0 := Fr_ne (this x List.mem_cons_self) hu
    exact hu0 (List.append_eq_nil_iff.1 e1.symm).1
  have step1 : (Fr (.nd false ks) l ∧ Cn S l) ↔ ∃ A B V a b w, (A ++ B).Perm (by_ S 0 ks) ∧ V.Perm (by_ S 1 ks ++ by_ S 2 ks) ∧ l = a ++ (w ++ b) ∧ FrL A a ∧ FrL B b ∧ Sides S V w := by
    constructor
    · rintro ⟨h, hc⟩
      obtain ⟨ks', hp, hl⟩ := (Fr_P _ _).1 h
      have ok' : ∀ k ∈ ks', Ok k := fun k hk => ok k (hp.mem_iff.1 hk)
      obtain ⟨A, x, M, y, B, rfl, hA, hB, hx, hy⟩ := two_split (S := S) (ks := ks') (by rw [some_perm hp]; exact h2)
      obtain ⟨a, r, rfl, ha, u, r2, rfl, hu, hr2⟩ := (FrL_app _ _ _).1 hl
      obtain ⟨m, r3, rfl, hm, v, b, rfl, hv, hb⟩ := (FrL_app _ _ _).1 hr2
      have okA : ∀ k ∈ A, Ok k := fun k hk => ok' k (by simp [hk])
      have okB : ∀ k ∈ B, Ok k := fun k hk => ok' k (by simp [hk])
      have okM : ∀ k ∈ M, Ok k := fun k hk => ok' k (by simp [hk])
      have okx : Ok x := ok' x (by simp)
      have oky : Ok y := ok' y (by simp)
      have na := hA.non okA ha
      have nb := hB.non okB hb
      have nu : ¬ non S u := fun e => hx ((Fr_zero okx hu).2 e)
      have nv : ¬ non S v := fun e => hy ((Fr_zero oky hv).2 e)
      rw [show a ++ (u ++ (m ++ (v ++ b))) = a ++ (u ++ (m ++ v)) ++ b from by simp, Cn_outer na nb, Cn_mid nu nv] at hc
      have hM2 := (FrL_two okM hm).2 hc.2.1
      have hV0 : ∀ k ∈ x :: (M ++ [y]), st S k ≠ 0 := by
        intro k hk
        rcases List.mem_cons.1 hk with rfl | hk
        · exact hx
        · rcases List.mem_append.1 hk with hk | hk
          · rw [hM2 k hk]; omega
          · rw [List.mem_singleton.1 hk]; exact hy
      have e3 : A ++ x :: (M ++ y :: B) = A ++ (x :: (M ++ [y])) ++ B := by simp
      rw [e3] at hp
      have byV0 : by_ S 0 (x :: (M ++ [y])) = [] := by
        unfold by_
        rw [List.filter_eq_nil_iff]
        intro k hk; simpa using hV0 k hk
      have p0 := by_perm (S := S) 0 hp
      have p1 := by_perm (S := S) 1 hp
      have p2 := by_perm (S := S) 2 hp
      rw [by_app, by_app, by_all hA, byV0, by_all hB, List.append_nil] at p0
      rw [by_app, by_app, by_none hA (by omega), by_none hB (by omega), List.append_nil, List.nil_append] at p1 p2
      refine ⟨A, B, x :: (M ++ [y]), a, b, u ++ (m ++ v), p0, ?_, by simp, ha, hb, x, M, y, u, m, v, rfl, rfl, hu, hm, hv, hc.1, hc.2.1, hc.2.2⟩
      refine List.Perm.trans ?_ (p1.append p2)
      have := by_three (S := S) (x :: (M ++ [y]))
      rw [byV0, List.nil_append] at this
      exact this.symm
    · rintro ⟨A, B, V, a, b, w, pAB, pV, rfl, ha, hb, hV⟩
      have hA : Zs S A := fun k hk => (by_mem.1 (pAB.mem_iff.1 (List.mem_append_left B hk))).2
      have hB : Zs S B := fun k hk => (by_mem.1 (pAB.mem_iff.1 (List.mem_append_right A hk))).2
      have okA : ∀ k ∈ A, Ok k := fun k hk => ok k (by_mem.1 (pAB.mem_iff.1 (List.mem_append_left B hk))).1
      have okB : ∀ k ∈ B, Ok k := fun k hk => ok k (by_mem.1 (pAB.mem_iff.1 (List.mem_append_right A hk))).1
      have na := hA.non okA ha
      have nb := hB.non okB hb
      have hfr := hV.frl
      refine ⟨(Fr_P _ _).2 ⟨A ++ (V ++ B), ?_, (FrL_app _ _ _).2 ⟨a, w ++ b, rfl, ha, (FrL_app _ _ _).2 ⟨w, b, rfl, hfr, hb⟩⟩⟩, ?_⟩
      · refine List.Perm.trans ?_ (by_three (S := S) ks)
        rw [List.append_assoc]
        refine List.Perm.trans ?_ (pAB.append pV)
        rw [List.append_assoc]
        exact List.Perm.append_left A List.perm_append_comm
      · rw [← List.append_assoc, Cn_outer na nb]
        obtain ⟨x, M, y, u, m, v, rfl, rfl, hu, hm, hv, eu, am, ev⟩ := hV
        refine Cn_app.2 (.inr (.inr ⟨eu, ?_⟩))
        rw [List.reverse_append, EF_app]
        exact .inr ⟨ev, al_rev.2 am⟩
  rw [step1, tog_togL]
  constructor
  · rintro ⟨A, B, V, a, b, w, pAB, pV, rfl, ha, hb, hV⟩
    obtain ⟨ts, e, hts⟩ := (sides_tog (S := S) ok h2 w).1 ⟨V, pV, hV⟩
    refine ⟨_, by rw [e]; rfl, ?_⟩
    have h1 := lne_one (hne ts e)
    rw [← FrL_one, ← grp_one (by rw [h1]; simp), FrL_grp, h1]
    refine ⟨A ++ ((lne ts).headD default :: B), ?_, (FrL_app _ _ _).2 ⟨a, w ++ b, rfl, ha, w, b, rfl, ?_, hb⟩⟩
    · refine List.Perm.trans List.perm_middle ?_
      refine List.Perm.trans (pAB.cons _) ?_
      exact (List.perm_append_comm (l₁ := [_]) (l₂ := by_ S 0 ks))
    · rw [← FrL_one, ← h1, FrL_lne]
      rcases hts with h | h
      · exact .inl h
      · exact .inr (FrL_rev.2 h)
  · rintro ⟨t', e, h⟩
    obtain ⟨ts, e1, rfl⟩ := Option.map_eq_some_iff.1 e
    have h1 := lne_one (hne ts e1)
    rw [← FrL_one, ← grp_one (by rw [h1]; simp), FrL_grp, h1] at h
    obtain ⟨K, pK, hK⟩ := h
    have hmem : (lne ts).headD default ∈ K := pK.mem_iff.2 (by simp)
    obtain ⟨A, B, rfl⟩ := List.append_of_mem hmem
    obtain ⟨a, r, rfl, ha, w, b, rfl, hw, hb⟩ := (FrL_app _ _ _).1 hK
    have pAB : (A ++ B).Perm (by_ S 0 ks) := by
      have : ((lne ts).headD default :: (A ++ B)).Perm ((lne ts).headD default :: by_ S 0 ks) :=
        (List.perm_middle.symm.trans pK).trans (List.perm_append_comm (l₁ := by_ S 0 ks) (l₂ := [_]))
      exact this.cons_inv
    rw [← FrL_one, ← h1, FrL_lne] at hw
    obtain ⟨V, pV, hV⟩ := (sides_tog (S := S) ok h2 w).2 ⟨ts, e1, hw.imp id FrL_rev.1⟩
    exact ⟨A, B, V, a, b, w, pAB, pV, rfl, ha, hb, hV⟩
theorem red_ok {t : PT} (h : Ok t) (h0 : st S t ≠ 0) : RedOk S t := by
  induction t using PT.ind with
  | h1 n =>
    intro l
    constructor
    · rintro ⟨hl, _⟩; exact ⟨_, rfl, hl⟩
    · rintro ⟨t', e, hl⟩
      cases e
      refine ⟨hl, ?_⟩
      have : st S (.leaf n) = 2 := by rw [st] at h0 ⊢; split <;> simp_all
      exact ((Fr_two h hl).1 this).cn
  | h2 q ks ih =>
    have hk := h.kids
    intro l
    rw [red_nd]
    by_cases c2 : st S (.nd q ks) = 2
    · rw [if_pos c2]
      constructor
      · rintro ⟨hl, _⟩; exact ⟨_, rfl, hl⟩
      · rintro ⟨t', e, hl⟩
        cases e
        exact ⟨hl, ((Fr_two h hl).1 c2).cn⟩
    · rw [if_neg c2]
      have hs0 : some_ S ks ≠ 0 := by
        intro e
        apply h0
        have hz := some_zero.1 e
        have h3 := h.two
        rw [st_nd, comb_zero (by intro e'; have := congrArg List.length e'; simp at this; subst this; simp at h3)]
        intro x hx
        obtain ⟨k, hk', rfl⟩ := List.mem_map.1 hx
        exact hz k hk'
      by_cases c1 : some_ S ks = 1
      · rw [if_pos c1]
        obtain ⟨A, x, B, rfl, hA, hB, hx⟩ := one_split c1
        have hrx := ih x (by simp) (hk x (by simp)) hx
        rw [lastI_at hB hx]
        have e1 : ((A ++ x :: B).map (red S)).getD A.length none = red S x := by
          rw [List.getD_eq_getElem?_getD, List.getElem?_map, List.getElem?_append_right (Nat.le_refl _)]
          simp
        have e2 : ∀ k', (A ++ x :: B).set A.length k' = A ++ k' :: B := by intro k'; rw [List.set_append_right _ _ (Nat.le_refl _)]; simp
        rw [e1]
        simp only [e2]
        cases q with
        | true =>
          constructor
          · rintro ⟨hl, hc⟩
            rcases (Fr_Q _ _).1 hl with hl | hl
            · obtain ⟨k', e, h'⟩ := (one_ok hk hA hB hrx l).1 ⟨hl, hc⟩
              exact ⟨_, by rw [e]; rfl, (Fr_Q _ _).2 (.inl h')⟩
            · obtain ⟨k', e, h'⟩ := (one_ok hk hA hB hrx l.reverse).1 ⟨FrL_rev.1 hl, Cn_rev.2 hc⟩
              exact ⟨_, by rw [e]; rfl, (Fr_Q _ _).2 (.inr (FrL_rev.2 h'))⟩
          · rintro ⟨t', e, h'⟩
            obtain ⟨k', e1, rfl⟩ := Option.map_eq_some_iff.1 e
            rcases (Fr_Q _ _).1 h' with h' | h'
            · obtain ⟨h3, h4⟩ := (one_ok hk hA hB hrx l).2 ⟨k', e1, h'⟩
              exact ⟨(Fr_Q _ _).2 (.inl h3), h4⟩
            · obtain ⟨h3, h4⟩ := (one_ok hk hA hB hrx l.reverse).2 ⟨k', e1, FrL_rev.1 h'⟩
              exact ⟨(Fr_Q _ _).2 (.inr (FrL_rev.2 h3)), Cn_rev.1 h4⟩
        | false =>
          constructor
          · rintro ⟨hl, hc⟩
            obtain ⟨K, pK, hK⟩ := (Fr_P _ _).1 hl
            obtain ⟨A', B', rfl⟩ := List.append_of_mem (pK.mem_iff.2 (show x ∈ A ++ x :: B from by simp))
            have pAB : (A' ++ B').Perm (A ++ B) := ((List.perm_middle.symm.trans pK).trans List.perm_middle).cons_inv
            have hA' : Zs S A' := fun k hk' => (List.mem_append.1 (pAB.mem_iff.1 (List.mem_append_left B' hk'))).elim (hA k) (hB k)
            have hB' : Zs S B' := fun k hk' => (List.mem_append.1 (pAB.mem_iff.1 (List.mem_append_right A' hk'))).elim (hA k) (hB k)
            obtain ⟨k', e, h'⟩ := (one_ok (fun k hk' => hk k (pK.mem_iff.1 hk')) hA' hB' hrx l).1 ⟨hK, hc⟩
            exact ⟨_, by rw [e]; rfl, (Fr_P _ _).2 ⟨_, List.perm_middle.trans ((pAB.cons k').trans List.perm_middle.symm), h'⟩⟩
          · rintro ⟨t', e, h'⟩
            obtain ⟨k', e1, rfl⟩ := Option.map_eq_some_iff.1 e
            obtain ⟨K, pK, hK⟩ := (Fr_P _ _).1 h'
            obtain ⟨A', B', rfl⟩ := List.append_of_mem (pK.mem_iff.2 (show k' ∈ A ++ k' :: B from by simp))
            have pAB : (A' ++ B').Perm (A ++ B) := ((List.perm_middle.symm.trans pK).trans List.perm_middle).cons_inv
            have hA' : Zs S A' := fun k hk' => (List.mem_append.1 (pAB.mem_iff.1 (List.mem_append_left B' hk'))).elim (hA k) (hB k)
            have hB' : Zs S B' := fun k hk' => (List.mem_append.1 (pAB.mem_iff.1 (List.mem_append_right A' hk'))).elim (hA k) (hB k)
            have pX : (A' ++ x :: B').Perm (A ++ x :: B) := List.perm_middle.trans ((pAB.cons x).trans List.perm_middle.symm)
            obtain ⟨h3, h4⟩ := (one_ok (fun k hk' => hk k (pX.mem_iff.1 hk')) hA' hB' hrx l).2 ⟨k', e1, hK⟩
            exact ⟨(Fr_P _ _).2 ⟨_, pX, h3⟩, h4⟩
      · rw [if_neg c1]
        have h2 : 2 ≤ some_ S ks := by omega
        cases q with
        | true =>
          rw [if_pos rfl]
          obtain ⟨A, x, M, y, B, rfl, hA, hB, hx, hy⟩ := two_split h2
          exact wth_ok hk hA hB hx hy l
        | false =>
          rw [if_neg (by simp)]
          exact tog_ok hk h2 l
end Go.Fw.Pq
