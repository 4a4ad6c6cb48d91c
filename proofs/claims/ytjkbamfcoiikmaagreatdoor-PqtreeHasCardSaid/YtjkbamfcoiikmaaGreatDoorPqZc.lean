/- Chapter 28: the orders of a tree among all orders. Plain. -/
import Derived.Test.YtjkbamfcoiikmaaGreatDoorPqZb
namespace Go.Fw.Pq
open Go Go.RowKit Go.Fw
theorem stp_ord {n : Nat} {t : PT} {W : List (List Int)} (h : OrdOf n t (W.map nr)) (hW : ∀ L ∈ W, ascR L n ∧ L ≠ []) (L : List Int) : OrdOf n (redT n t L) ((redW n t W L).map nr) ∧ ∀ M ∈ redW n t W L, ascR M n ∧ M ≠ [] := by
  by_cases ha : ascR L n
  · by_cases h0 : L = []
    · obtain ⟨_, e2, e3⟩ := red_nil (t := t) (W := W) ha h0
      rw [e2, e3]; exact ⟨h, hW⟩
    · cases e : red (rowS (nr L)) t with
      | none =>
        obtain ⟨_, e2, e3⟩ := red_none (W := W) ha h0 e
        rw [e2, e3]; exact ⟨h, hW⟩
      | some t' =>
        obtain ⟨_, e2, e3⟩ := red_some (W := W) ha h0 e
        rw [e2, e3, List.map_append]
        exact ⟨h.step (nr_lt ha) ((redR_cons h0).trans e), fun M hM => (List.mem_append.1 hM).elim (hW M) (fun h => by rw [List.mem_singleton.1 h]; exact ⟨ha, h0⟩)⟩
  · obtain ⟨_, e2, e3⟩ := red_bad (t := t) (W := W) ha
    rw [e2, e3]; exact ⟨h, hW⟩
theorem bT_ord {n : Nat} (hn : 0 < n) (l : List (List Int)) : OrdOf n (bT n l).1 ((bT n l).2.map nr) ∧ ∀ L ∈ (bT n l).2, ascR L n ∧ L ≠ [] := by
  have : ∀ m : List (List Int), OrdOf n (bT n m.reverse).1 ((bT n m.reverse).2.map nr) ∧ ∀ L ∈ (bT n m.reverse).2, ascR L n ∧ L ≠ [] := fun m => by
    induction m with
    | nil => exact ⟨OrdOf.new hn, fun _ h => by cases h⟩
    | cons k m ih => rw [List.reverse_cons, bT_snoc]; exact stp_ord ih.1 ih.2 k
  simpa using this l.reverse
theorem has_iff {n : Nat} (hn : 0 < n) {l : List (List Int)} {t : PT} {W : List (List Int)} (hT : (t, W) = bT n l) {p : List Nat} (hp : p.Perm (List.range n)) : hasP n W (zs p) ↔ Fr t p := by
  obtain ⟨h1, h2⟩ := bT_ord hn l
  rw [← hT] at h1 h2
  have h1 : OrdOf n t (W.map nr) := h1
  have h2 : ∀ L ∈ W, ascR L n ∧ L ≠ [] := h2
  rw [h1.fr]
  have ho : isOrd n (zs p) := ⟨p, rfl, hp⟩
  constructor
  · rintro ⟨_, _, h⟩
    refine ⟨hp, fun r hr => ?_⟩
    obtain ⟨L, hL, rfl⟩ := List.mem_map.1 hr
    exact (gapR_Con (h2 L hL).1 (h2 L hL).2 hp).1 (h L hL)
  · rintro ⟨_, h⟩
    refine ⟨ho.len, by rw [ho.srt]; exact asc_zs List.pairwise_lt_range fun x hx => List.mem_range.1 hx, fun L hL => ?_⟩
    exact (gapR_Con (h2 L hL).1 (h2 L hL).2 hp).2 (h _ (List.mem_map.2 ⟨L, hL, rfl⟩))
theorem asc_len {R : List Int} {n : Nat} (h : ascR R n) : R.length ≤ n := by
  have h1 : (nr R).length ≤ (List.range n).length := sub_length (nr_nodup h) fun x hx => List.mem_range.2 (nr_lt h x hx)
  rw [List.length_range] at h1
  exact Nat.le_trans (Nat.le_of_eq (List.length_map _).symm) h1
/-! ## All orders of at most five columns -/
def lexB : List Nat → List Nat → Bool
  | a :: l, b :: m => decide (a < b) || (decide (a = b) && lexB l m)
  | _, _ => false
theorem LL.irrefl {l : List Nat} : ¬ LL l l := fun h => h.asymm h
/-- How many of the first orders a tree has. -/
def cntF (n : Nat) (W : List (List Int)) (i : Nat) : Nat := ((ordF n n).take i).countP fun p => decide (hasP n W (zs p))
end Go.Fw.Pq
