/- Chapter 16: orders of columns that lead one list of columns to another one: how many, and the first one. Plain. -/
import Derived.Test.YtmambmpohkollaaGreatDoorCnA
namespace Go.Fw.Cn
open Go Go.RowKit Go.Fw
/-- All lists of different numbers below n, of a length, in lexicographic order. -/
def ext (n : Nat) (p : List Nat) : List (List Nat) := ((List.range n).filter fun v => decide (v ∉ p)).map fun v => p ++ [v]
def ordF (n : Nat) : Nat → List (List Nat)
  | 0 => [[]]
  | k + 1 => (ordF n k).flatMap (ext n)
/-- An order so far: as many different numbers below n. -/
structure Pre (n k : Nat) (p : List Nat) : Prop where
  len : p.length = k
  nd : p.Nodup
  lt : ∀ v ∈ p, v < n
theorem mem_ext {n : Nat} {p q : List Nat} : q ∈ ext n p ↔ ∃ v, v < n ∧ v ∉ p ∧ q = p ++ [v] := by
  unfold ext
  simp only [List.mem_map, List.mem_filter, List.mem_range, decide_eq_true_eq]
  exact ⟨fun ⟨v, ⟨h1, h2⟩, h3⟩ => ⟨v, h1, h2, h3.symm⟩, fun ⟨v, h1, h2, h3⟩ => ⟨v, ⟨h1, h2⟩, h3.symm⟩⟩
theorem Pre.nil (n : Nat) : Pre n 0 [] := ⟨rfl, List.nodup_nil, fun _ h => by cases h⟩
theorem Pre.snoc {n k v : Nat} {p : List Nat} (h : Pre n k p) (hv : v < n) (hp : v ∉ p) : Pre n (k + 1) (p ++ [v]) :=
  ⟨by rw [List.length_append, h.len]; rfl, List.nodup_append.2 ⟨h.nd, List.nodup_cons.2 ⟨by simp, List.nodup_nil⟩, fun a ha b hb e => by rw [List.mem_singleton.1 hb] at e; exact hp (e ▸ ha)⟩,
    fun x hx => (List.mem_append.1 hx).elim (h.lt x) fun hx => by rw [List.mem_singleton.1 hx]; exact hv⟩
theorem Pre.init {n k v : Nat} {p : List Nat} (h : Pre n (k + 1) (p ++ [v])) : Pre n k p ∧ v < n ∧ v ∉ p :=
  ⟨⟨by have := h.len; rw [List.length_append] at this; simpa using this, (List.nodup_append.1 h.nd).1, fun x hx => h.lt x (List.mem_append_left _ hx)⟩, h.lt v (List.mem_append_right _ List.mem_cons_self), fun hv => (List.nodup_append.1 h.nd).2.2 v hv v List.mem_cons_self rfl⟩
theorem mem_ordF {n : Nat} : ∀ {k : Nat} {p : List Nat}, p ∈ ordF n k ↔ Pre n k p
  | 0, p => by
    rw [ordF, List.mem_singleton]
    exact ⟨fun e => e ▸ Pre.nil n, fun h => List.length_eq_zero_iff.1 h.len⟩
  | k + 1, p => by
    rw [ordF, List.mem_flatMap]
    constructor
    · rintro ⟨q, hq, he⟩
      obtain ⟨v, h1, h2, rfl⟩ := mem_ext.1 he
      exact (mem_ordF.1 hq).snoc h1 h2
    · intro h
      rcases List.eq_nil_or_concat p with rfl | ⟨q, v, rfl⟩
      · exact absurd h.len (by simp)
      · rw [List.concat_eq_append] at h ⊢
        obtain ⟨h1, h2, h3⟩ := h.init
        exact ⟨q, mem_ordF.2 h1, mem_ext.2 ⟨v, h2, h3, rfl⟩⟩
theorem sub_len {l m : List Nat} (nd : l.Nodup) (hs : ∀ x ∈ l, x ∈ m) : l.length ≤ m.length := by
  induction l generalizing m with
  | nil => exact Nat.zero_le _
  | cons a l ih =>
    obtain ⟨h1, h2⟩ := List.nodup_cons.1 nd
    have ha := hs a List.mem_cons_self
    have := ih (m := m.erase a) h2 fun x hx => (List.mem_erase_of_ne fun e : x = a => h1 (e ▸ hx)).2 (hs x (List.mem_cons_of_mem _ hx))
    rw [List.length_erase_of_mem ha] at this
    have := List.length_pos_of_mem ha
    rw [List.length_cons]; omega
theorem Pre.perm {n : Nat} {p : List Nat} (h : Pre n n p) : p.Perm (List.range n) := by
  refine (List.perm_ext_iff_of_nodup h.nd List.nodup_range).2 fun a => ?_
  rw [List.mem_range]
  refine ⟨h.lt a, fun ha => Classical.byContradiction fun hn => ?_⟩
  have := sub_len (l := a :: p) (m := List.range n) (List.nodup_cons.2 ⟨hn, h.nd⟩) fun y hy => by
    rw [List.mem_range]
    rcases List.mem_cons.1 hy with rfl | hy
    · exact ha
    · exact h.lt y hy
  rw [List.length_cons, List.length_range, h.len] at this
  omega
/-- The orders depth first, behind a beginning. -/
def dfs (n : Nat) : Nat → List Nat → List (List Nat)
  | 0, p => [p]
  | f + 1, p => (ext n p).flatMap (dfs n f)
theorem dfs_ordF (n : Nat) : ∀ f k, (ordF n k).flatMap (dfs n f) = ordF n (k + f)
  | 0, k => by
    show (ordF n k).flatMap (fun p => [p]) = _
    rw [List.flatMap_singleton']; rfl
  | f + 1, k => by
    show (ordF n k).flatMap (fun p => (ext n p).flatMap (dfs n f)) = _
    rw [← List.flatMap_assoc, show (ordF n k).flatMap (fun x => ext n x) = ordF n (k + 1) from rfl, dfs_ordF n f (k + 1), show k + 1 + f = k + (f + 1) by omega]
theorem dfs_all (n : Nat) : dfs n n [] = ordF n n := by
  have h := dfs_ordF n n 0
  rw [Nat.zero_add] at h
  rw [← h]
  show _ = [[]].flatMap _
  simp
/-! ## Orders that lead to a list -/
section
variable (C own : List (List Int)) (n : Nat)
def gv (p : List Nat) (v : Nat) : Bool := decide (v ∉ p) && decide (C.getD v [] = own.getD p.length [])
def gx (p : List Nat) : List Nat := (List.range n).filter (gv C own p)
def G : Nat → List (List Nat)
  | 0 => [[]]
  | k + 1 => (G k).flatMap fun p => (gx C own n p).map fun v => p ++ [v]
def good (p : List Nat) : Prop := p.map (fun v => C.getD v []) = own.take p.length
instance (p : List Nat) : Decidable (good C own p) := inferInstanceAs (Decidable (_ = _))
end
section
variable {C own : List (List Int)} {n : Nat}
theorem take_succ_getD {l : List (List Int)} {k : Nat} (h : k < l.length) : l.take (k + 1) = l.take k ++ [l.getD k []] := by
  rw [List.take_add_one, List.getElem?_eq_getElem h, List.getD_eq_getElem?_getD, List.getElem?_eq_getElem h]; rfl
theorem good_snoc {p : List Nat} {v : Nat} (hk : p.length < own.length) : good C own (p ++ [v]) ↔ good C own p ∧ C.getD v [] = own.getD p.length [] := by
  unfold good
  rw [List.map_append, List.length_append, List.length_singleton, take_succ_getD hk]
  exact ⟨fun h => ⟨(List.append_inj h (by rw [List.length_map, List.length_take]; omega)).1, List.singleton_inj.1 (List.append_inj h (by rw [List.length_map, List.length_take]; omega)).2⟩, fun h => by rw [h.1, ← h.2]; rfl⟩
theorem flatMap_filter' {α β : Type} {p : α → Bool} {f : α → List β} : ∀ {l : List α}, (l.filter p).flatMap f = l.flatMap fun a => if p a = true then f a else []
  | [] => rfl
  | a :: l => by
    rw [List.filter_cons, List.flatMap_cons, ← flatMap_filter']
    split <;> simp [*]
theorem flatMap_congr' {α β : Type} {f g : α → List β} : ∀ {l : List α}, (∀ a ∈ l, f a = g a) → l.flatMap f = l.flatMap g
  | [], _ => rfl
  | a :: l, h => by rw [List.flatMap_cons, List.flatMap_cons, h a List.mem_cons_self, flatMap_congr' fun b hb => h b (List.mem_cons_of_mem _ hb)]
theorem G_eq : ∀ {k}, k ≤ own.length → G C own n k = (ordF n k).filter fun p => decide (good C own p)
  | 0, _ => by rw [G, ordF]; simp [good]
  | k + 1, hk => by
    rw [G, ordF, List.filter_flatMap, G_eq (by omega), flatMap_filter']
    refine flatMap_congr' fun p hp => ?_
    have hl := (mem_ordF.1 hp).len
    by_cases hg : good C own p
    · rw [if_pos (decide_eq_true hg)]
      unfold ext gx
      rw [List.filter_map, List.filter_filter]
      congr 1
      refine List.filter_congr fun v _ => ?_
      show gv C own p v = (decide (good C own (p ++ [v])) && decide (v ∉ p))
      unfold gv
      rw [Bool.and_comm, decide_eq_decide.2 ((good_snoc (C := C) (own := own) (p := p) (v := v) (by omega)).trans (and_iff_right hg))]
    · rw [if_neg (by simpa using hg)]
      refine (List.filter_eq_nil_iff.2 fun q hq => ?_).symm
      obtain ⟨v, _, _, rfl⟩ := mem_ext.1 hq
      rw [decide_eq_true_eq, good_snoc (by omega)]
      exact fun h => hg h.1
theorem mem_G {k : Nat} (hk : k ≤ own.length) {p : List Nat} : p ∈ G C own n k ↔ Pre n k p ∧ good C own p := by
  rw [G_eq hk, List.mem_filter, mem_ordF, decide_eq_true_eq]
theorem map_getD_range : ∀ (C : List (List Int)), (List.range C.length).map (fun v => C.getD v []) = C := fun C => by
  refine List.ext_getElem (by rw [List.length_map, List.length_range]) fun i h1 h2 => ?_
  rw [List.getElem_map, List.getElem_range, List.getD_eq_getElem?_getD, List.getElem?_eq_getElem h2]; rfl
theorem gx_len (hC : C.length = n) {k : Nat} (_hk : k < own.length) {p : List Nat} (hp : Pre n k p) (hg : good C own p) : (gx C own n p).length + (own.take k).count (own.getD k []) = C.count (own.getD k []) := by
  have hlen := hp.len
  have h1 : C.count (own.getD k []) = (List.range n).countP fun v => C.getD v [] == own.getD k [] := by
    rw [← hC]
    have := congrArg (List.count (own.getD k [])) (map_getD_range C)
    rw [← this, List.count, List.countP_map]; rfl
  have h2 : (own.take k).count (own.getD k []) = p.countP fun v => C.getD v [] == own.getD k [] := by
    unfold good at hg
    rw [hlen] at hg
    rw [← hg, List.count, List.countP_map]; rfl
  have h3 : ((List.range n).filter fun v => decide (v ∈ p)).Perm p := by
    refine (List.perm_ext_iff_of_nodup (List.nodup_range.filter _) hp.nd).2 fun v => ?_
    rw [List.mem_filter, List.mem_range, decide_eq_true_eq]
    exact ⟨fun h => h.2, fun h => ⟨hp.lt v h, h⟩⟩
  have h4 := List.countP_eq_countP_filter_add (List.range n) (fun v => C.getD v [] == own.getD k []) (fun v => decide (v ∈ p))
  rw [h3.countP_eq] at h4
  rw [h1, h2, h4, Nat.add_comm]
  congr 1
  unfold gx
  rw [← List.countP_eq_length_filter, List.countP_filter]
  refine List.countP_congr fun v _ => ?_
  unfold gv
  rw [hlen]
  simp [and_comm]
theorem len_flatMap {α β : Type} {f : α → List β} {c : Nat} : ∀ {l : List α}, (∀ a ∈ l, (f a).length = c) → (l.flatMap f).length = l.length * c
  | [], _ => by simp
  | a :: l, h => by
    rw [List.flatMap_cons, List.length_append, h a List.mem_cons_self, len_flatMap fun b hb => h b (List.mem_cons_of_mem _ hb), List.length_cons, Nat.succ_mul, Nat.add_comm]
theorem G_len (hC : C.length = n) {k : Nat} (hk : k < own.length) : (G C own n (k + 1)).length = (G C own n k).length * (C.count (own.getD k []) - (own.take k).count (own.getD k [])) := by
  rw [G]
  refine len_flatMap fun p hp => ?_
  obtain ⟨h1, h2⟩ := (mem_G (by omega)).1 hp
  have := gx_len hC hk h1 h2
  rw [List.length_map]; omega
/-- The first index that goes on. -/
theorem gx_first {p : List Nat} {v : Nat} (hv : v < n) (h : gv C own p v = true) (hb : ∀ u, u < v → gv C own p u = false) : (gx C own n p).head? = some v := by
  unfold gx
  rw [List.head?_filter, show n = v + (n - v) by omega, List.range_add, List.find?_append, List.find?_eq_none.2 (fun u hu => by rw [hb u (List.mem_range.1 hu)]; exact Bool.false_ne_true), Option.none_or]
  obtain ⟨m, hm⟩ : ∃ m, n - v = m + 1 := ⟨n - v - 1, by omega⟩
  rw [hm, List.range_succ_eq_map, List.map_cons, List.find?_cons_of_pos (by rw [Nat.add_zero]; exact h)]
  rfl
theorem gx_none {p : List Nat} (hb : ∀ u, u < n → gv C own p u = false) : gx C own n p = [] :=
  List.filter_eq_nil_iff.2 fun u hu => by rw [hb u (List.mem_range.1 hu)]; exact Bool.false_ne_true
/-- What the program finds, place by place. -/
def mt (C own : List (List Int)) (n : Nat) : Nat → Option (List Nat)
  | 0 => some []
  | k + 1 => (mt C own n k).bind fun p => (gx C own n p).head?.map fun v => p ++ [v]
theorem head_flatMap {α β : Type} {f : α → List β} : ∀ {l : List α}, (∀ a ∈ l, ∀ b ∈ l, (f a).length = (f b).length) → (l.flatMap f).head? = l.head?.bind fun a => (f a).head?
  | [], _ => rfl
  | a :: l, h => by
    rw [List.flatMap_cons, List.head?_cons, List.head?_append]
    cases hf : f a with
    | cons x y => simp [hf]
    | nil =>
      have : l.flatMap f = [] := by
        rw [List.flatMap_eq_nil_iff]
        intro b hb
        have := h b (List.mem_cons_of_mem _ hb) a List.mem_cons_self
        rw [hf] at this
        exact List.length_eq_zero_iff.1 this
      rw [this]; simp [hf]
theorem mt_head (hC : C.length = n) : ∀ {k}, k ≤ own.length → mt C own n k = (G C own n k).head?
  | 0, _ => rfl
  | k + 1, hk => by
    rw [mt, mt_head hC (by omega), G, head_flatMap]
    · congr 1; funext p; rw [List.head?_map]
    · intro a ha b hb
      obtain ⟨h1, h2⟩ := (mem_G (by omega)).1 ha
      obtain ⟨h3, h4⟩ := (mem_G (by omega)).1 hb
      have := gx_len hC (by omega) h1 h2
      have := gx_len hC (by omega) h3 h4
      rw [List.length_map, List.length_map]; omega
/-! ## How many -/
def PB : List (List Int) → Nat
  | [] => 1
  | x :: l => (1 + l.count x) * PB l
theorem PB_perm {l m : List (List Int)} (h : l.Perm m) : PB l = PB m := by
  induction h with
  | nil => rfl
  | cons x h ih => rw [PB, PB, ih, h.count_eq]
  | swap x y l =>
    rw [PB, PB, PB, PB, List.count_cons, List.count_cons]
    by_cases e : x = y
    · subst e; rfl
    · rw [if_neg (by simpa using e), if_neg (by simpa using fun h : y = x => e h.symm)]
      rw [Nat.add_zero, Nat.add_zero, ← Nat.mul_assoc, ← Nat.mul_assoc, Nat.mul_comm (1 + l.count y)]
  | trans _ _ h1 h2 => exact h1.trans h2
/-- The product of the program: how many equal ones stand before, and one. -/
def facA (l : List (List Int)) : Nat → Nat
  | 0 => 1
  | i + 1 => facA l i * (1 + (l.take i).count (l.getD i []))
theorem facA_PB (l : List (List Int)) : ∀ {i}, i ≤ l.length → facA l i = PB (l.take i)
  | 0, _ => by rw [List.take_zero]; rfl
  | i + 1, h => by
    rw [facA, facA_PB l (by omega), take_succ_getD (by omega), PB_perm (List.perm_append_singleton _ _), PB, Nat.mul_comm]
theorem G_PB (hC : C.length = n) (hp : C.Perm own) : ∀ {k}, k ≤ own.length → (G C own n k).length * PB (own.drop k) = PB own
  | 0, _ => by rw [List.drop_zero]; show 1 * _ = _; rw [Nat.one_mul]
  | k + 1, h => by
    have hd : own.drop k = own.getD k [] :: own.drop (k + 1) := by
      rw [List.drop_eq_getElem_cons (show k < own.length by omega), List.getD_eq_getElem?_getD, List.getElem?_eq_getElem (show k < own.length by omega)]; rfl
    have hs : own.count (own.getD k []) = (own.take k).count (own.getD k []) + (own.drop k).count (own.getD k []) := by
      rw [← List.count_append, List.take_append_drop]
    rw [hd, List.count_cons_self] at hs
    rw [← G_PB hC hp (k := k) (by omega), G_len hC (by omega), hp.count_eq, hd, PB, Nat.mul_assoc]
    congr 2
    omega
theorem G_all (hC : C.length = n) (hp : C.Perm own) : (G C own n own.length).length = facA own own.length := by
  have h := G_PB hC hp (Nat.le_refl _)
  rw [List.drop_length] at h
  rw [facA_PB own (Nat.le_refl _), List.take_length, ← h]
  show _ = _ * 1
  rw [Nat.mul_one]
theorem G_perm (hC : C.length = n) (hn : own.length = n) {p : List Nat} (h : p ∈ G C own n own.length) : C.Perm own := by
  obtain ⟨h1, h2⟩ := (mem_G (Nat.le_refl _)).1 h
  unfold good at h2
  rw [h1.len, List.take_length] at h2
  rw [hn] at h1
  have h3 := map_getD_range C
  rw [hC] at h3
  exact (List.Perm.of_eq h3.symm).trans ((h1.perm.map fun v => C.getD v []).symm.trans (List.Perm.of_eq h2))
end
end Go.Fw.Cn
