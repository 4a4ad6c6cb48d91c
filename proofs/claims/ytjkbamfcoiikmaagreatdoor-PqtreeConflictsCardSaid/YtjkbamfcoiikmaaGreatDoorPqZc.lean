/- Chapter 28: the orders of a tree among all orders. Plain. -/
import Derived.Test.YtjkbamfcoiikmaaGreatDoorPqZb
namespace Go.Fw.Pq
open Go Go.RowKit Go.Fw
theorem stp_ord {n : Nat} {t : PT} {W : List (List Int)} (h : OrdOf n t (W.map nr)) (hW : ∀ L ∈ W, ascR L n ∧ L ≠ []) (L : List Int) : OrdOf n (redT n t L) ((redW n t W L).map nr) ∧ ∀ M ∈ redW n t W L, ascR M n ∧ M ≠ [] := by
  by_cases ha : ascR L n
  · by_cases h0 : L = []
    · obtain ⟨_, e2, e3⟩ := red_nil (t := t) (W := W) ha h0
      rw [e2, e3]; exact ⟨h, hW⟩
    · cases e : red (rowS (nr L)) t with
      | none =>
        obtain ⟨_, e2, e3⟩ := red_none (W := W) ha h0 e
        rw [e2, e3]; exact ⟨h, hW⟩
      | some t' =>
        obtain ⟨_, e2, e3⟩ := red_some (W := W) ha h0 e
        rw [e2, e3, List.map_append]
        exact ⟨h.step (nr_lt ha) ((redR_cons h0).trans e), fun M hM => (List.mem_append.1 hM).elim (hW M) (fun h => by rw [List.mem_singleton.1 h]; exact ⟨ha, h0⟩)⟩
  · obtain ⟨_, e2, e3⟩ := red_bad (t := t) (W := W) ha
    rw [e2, e3]; exact ⟨h, hW⟩
theorem bT_ord {n : Nat} (hn : 0 < n) (l : List (List Int)) : OrdOf n (bT n l).1 ((bT n l).2.map nr) ∧ ∀ L ∈ (bT n l).2, ascR L n ∧ L ≠ [] := by
  have : ∀ m : List (List Int), OrdOf n (bT n m.reverse).1 ((bT n m.reverse).2.map nr) ∧ ∀ L ∈ (bT n m.reverse).2, ascR L n ∧ L ≠ [] := fun m => by
    induction m with
    | nil => exact ⟨OrdOf.new hn, fun _ h => by cases h⟩
    | cons k m ih => rw [List.reverse_cons, bT_snoc]; exact stp_ord ih.1 ih.2 k
  simpa using this l.reverse
theorem has_iff {n : Nat} (hn : 0 < n) {l : List (List Int)} {t : PT} {W : List (List Int)} (hT : (t, W) = bT n l) {p : List Nat} (hp : p.Perm (List.range n)) : hasP n W (zs p) ↔ Fr t p := by
  obtain ⟨h1, h2⟩ := bT_ord hn l
  rw [← hT] at h1 h2
  have h1 : OrdOf n t (W.map nr) := h1
  have h2 : ∀ L ∈ W, ascR L n ∧ L ≠ [] := h2
  rw [h1.fr]
  have ho : isOrd n (zs p) := ⟨p, rfl, hp⟩
  constructor
  · rintro ⟨_, _, h⟩
    refine ⟨hp, fun r hr => ?_⟩
    obtain ⟨L, hL, rfl⟩ := List.mem_map.1 hr
    exact (gapR_Con (h2 L hL).1 (h2 L hL).2 hp).1 (h L hL)
  · rintro ⟨_, h⟩
    refine ⟨ho.len, by rw [ho.srt]; exact asc_zs List.pairwise_lt_range fun x hx => List.mem_range.1 hx, fun L hL => ?_⟩
    exact (gapR_Con (h2 L hL).1 (h2 L hL).2 hp).2 (h _ (List.mem_map.2 ⟨L, hL, rfl⟩))
theorem fits_iff {n : Nat} (hn : 0 < n) {l : List Rw} {t : PT} {W : List (List Int)} (hT : (t, W) = bT n (Rls l)) {p : List Nat} (hp : p.Perm (List.range n)) : (∀ j, j < (accS n l).2.length → Con (nr ((accS n l).2.getD j dR).L) p) ↔ Fr t p := by
  obtain ⟨h1, _⟩ := accS_ord hn l
  have e : (accS n l).1 = t := by rw [accS_bT, ← hT]
  rw [e] at h1
  rw [h1.fr]
  constructor
  · intro h
    refine ⟨hp, fun r hr => ?_⟩
    obtain ⟨x, hx, rfl⟩ := List.mem_map.1 hr
    obtain ⟨j, hj, rfl⟩ := getDR_mem hx
    exact h j hj
  · rintro ⟨_, h⟩ j hj
    exact h _ (List.mem_map.2 ⟨_, rw_mem hj, rfl⟩)
theorem has_eq {fb : Bool} {F H : Prop} [Decidable H] (h1 : fb = true ↔ F) (h2 : H ↔ F) : fb = decide H := by
  cases fb with
  | true => exact (decide_eq_true (h2.2 (h1.1 rfl))).symm
  | false => exact (decide_eq_false fun h => Bool.false_ne_true (h1.2 (h2.1 h))).symm
theorem fits_step {j : Nat} {C : Nat → Prop} {g : Prop} [Decidable g] (h : true = true ↔ ∀ x, x < j → C x) (hg : g ↔ C j) : decide g = true ↔ ∀ x, x < j + 1 → C x := by
  rw [decide_eq_true_eq]
  constructor
  · intro e x hx
    by_cases hxj : x = j
    · subst hxj; exact hg.1 e
    · exact h.1 rfl x (by omega)
  · exact fun e => hg.2 (e j (by omega))
theorem asc_len {R : List Int} {n : Nat} (h : ascR R n) : R.length ≤ n := by
  have h1 : (nr R).length ≤ (List.range n).length := sub_length (nr_nodup h) fun x hx => List.mem_range.2 (nr_lt h x hx)
  rw [List.length_range] at h1
  exact Nat.le_trans (Nat.le_of_eq (List.length_map _).symm) h1
/-! ## All orders of at most five columns -/
def lexB : List Nat → List Nat → Bool
  | a :: l, b :: m => decide (a < b) || (decide (a = b) && lexB l m)
  | _, _ => false
theorem lexB_LL : ∀ {l m : List Nat}, lexB l m = true → LL l m
  | [], _, h => by cases h
  | _ :: _, [], h => by cases h
  | a :: l, b :: m, h => by
    unfold lexB at h
    rw [Bool.or_eq_true, Bool.and_eq_true, decide_eq_true_eq, decide_eq_true_eq] at h
    rcases h with h | ⟨rfl, h⟩
    · exact LL.cons_iff.2 (.inl h)
    · exact LL.cons_iff.2 (.inr ⟨rfl, lexB_LL h⟩)
theorem ordF_lex : ∀ n, n ≤ 5 → (ordF n n).Pairwise (fun a b => lexB a b = true) := by decide +kernel
theorem ordF_perm : ∀ n, n ≤ 5 → ∀ p ∈ ordF n n, p.Perm (List.range n) := by decide +kernel
theorem ordF_all : ∀ n, n ≤ 5 → ∀ p ∈ perms (List.range n), p ∈ ordF n n := by decide +kernel
theorem LL.irrefl {l : List Nat} : ¬ LL l l := fun h => h.asymm h
theorem ordF_nodup {n : Nat} (hn : n ≤ 5) : (ordF n n).Nodup := (ordF_lex n hn).imp (S := fun a b => a ≠ b) fun {a b} h (e : a = b) => LL.irrefl (l := b) (by rw [e] at h; exact lexB_LL h)
theorem ordF_mem {n : Nat} (hn : n ≤ 5) {p : List Nat} : p ∈ ordF n n ↔ p.Perm (List.range n) := ⟨ordF_perm n hn p, fun h => ordF_all n hn p (mem_perms.2 h)⟩
/-- How many of the first orders a tree has. -/
def cntF (n : Nat) (W : List (List Int)) (i : Nat) : Nat := ((ordF n n).take i).countP fun p => decide (hasP n W (zs p))
theorem cntF_le (n : Nat) (hn : n ≤ 5) (W : List (List Int)) (i : Nat) : cntF n W i ≤ 120 :=
  Nat.le_trans List.countP_le_length (by rw [List.length_take]; have := ordF_len n hn n (Nat.le_refl _); omega)
theorem cntF_succ {n : Nat} {W : List (List Int)} {i : Nat} (h : i < (ordF n n).length) : cntF n W (i + 1) = cntF n W i + if hasP n W (zs ((ordF n n).getD i [])) then 1 else 0 := by
  unfold cntF
  rw [List.take_add_one, List.getElem?_eq_getElem h, List.countP_append, List.getD_eq_getElem?_getD, List.getElem?_eq_getElem h]
  show _ + List.countP _ [(ordF n n)[i]] = _
  rw [List.countP_singleton]
  simp only [decide_eq_true_eq, Option.getD_some]
theorem cntF_end {n : Nat} (hn : 0 < n) (h5 : n ≤ 5) {l : List (List Int)} {t : PT} {W : List (List Int)} (hT : (t, W) = bT n l) {i : Nat} (hi : (ordF n n).length ≤ i) : cntF n W i = cntT t ∧ 0 < cntT t := by
  have h1 := (bT_ord hn l).1
  rw [← hT] at h1
  have h1 : OrdOf n t (W.map nr) := h1
  have hm : ∀ p, p ∈ (ordF n n).filter (fun p => decide (hasP n W (zs p))) ↔ Fr t p := fun p => by
    rw [List.mem_filter, ordF_mem h5]
    constructor
    · rintro ⟨hp, h⟩; exact (has_iff hn hT hp).1 (of_decide_eq_true h)
    · intro h
      have hp := ((h1.fr p).1 h).1
      exact ⟨hp, decide_eq_true ((has_iff hn hT hp).2 h)⟩
  have e := cnt_unique h1.tn.ok h1.tn.nodup ((ordF_nodup h5).filter _) hm
  unfold cntF
  rw [List.take_of_length_le hi, List.countP_eq_length_filter, e]
  refine ⟨rfl, ?_⟩
  rw [← e]
  exact List.length_pos_iff.2 fun h0 => by
    have := (hm _).2 (Fr_lvs t)
    rw [h0] at this; cases this
theorem fst_first {n : Nat} (hn : 0 < n) (h5 : n ≤ 5) {l : List (List Int)} {t : PT} {W : List (List Int)} (hT : (t, W) = bT n l) {i : Nat} (hi : i < (ordF n n).length) (h0 : cntF n W i = 0) (hh : hasP n W (zs ((ordF n n).getD i []))) : fstT t = (ordF n n).getD i [] := by
  have h1 := (bT_ord hn l).1
  rw [← hT] at h1
  have h1 : OrdOf n t (W.map nr) := h1
  have hp := ordF_perm n h5 _ (getD_memF hi)
  refine (fst_unique h1.tn.ok h1.tn.nodup ((has_iff hn hT hp).1 hh) fun m hm => ?_).symm
  have hmp := ((h1.fr m).1 hm).1
  obtain ⟨j, hj, e⟩ := List.mem_iff_getElem.1 ((ordF_mem h5).2 hmp)
  have eg : (ordF n n).getD i [] = (ordF n n)[i] := by rw [List.getD_eq_getElem?_getD, List.getElem?_eq_getElem hi]; rfl
  rcases Nat.lt_trichotomy j i with h | h | h
  · exfalso
    unfold cntF at h0
    rw [List.countP_eq_zero] at h0
    have hmt : m ∈ (ordF n n).take i := by
      rw [List.mem_take_iff_getElem]
      exact ⟨j, by omega, e⟩
    exact h0 m hmt (decide_eq_true ((has_iff hn hT hmp).2 hm))
  · subst h
    exact .inl (eg.trans e)
  · refine .inr ?_
    rw [eg, ← e]
    exact lexB_LL (List.pairwise_iff_getElem.1 (ordF_lex n h5) i j hi hj h)
end Go.Fw.Pq
