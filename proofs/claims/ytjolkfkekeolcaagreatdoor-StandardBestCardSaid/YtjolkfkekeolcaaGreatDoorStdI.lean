/- Chapter 38: the best unit. Plain. -/
import Derived.Test.YtjolkfkekeolcaaGreatDoorStdH
namespace Go.Fw
open Go Go.RowKit Go.Nat9

theorem few_ok {l : List Fi} (hr : ∀ x ∈ l, x.raw) (h : ∀ i, i < l.length → (l.getD i dI).n ≤ 3 ∧ (l.getD i dI).m ≤ 3) : ∀ x ∈ l, x.ok 4 := by
  intro x hx
  obtain ⟨i, hi, rfl⟩ := List.mem_iff_getElem.1 hx
  have e := h i hi
  rw [List.getD_eq_getElem?_getD, List.getElem?_eq_getElem hi] at e
  have e : l[i].n ≤ 3 ∧ l[i].m ≤ 3 := e
  exact Fi.fin (hr _ hx) (by omega) (by omega)
def unitsBad (l : List Fi) : Bool := (List.range l.length).any fun k => !decide (0 < (l.getD k dI).q)
theorem unitsBad_hit {l : List Fi} {k : Nat} (hk : k < l.length) (h : ¬ 0 < (l.getD k dI).q) : unitsBad l = true := by
  rw [unitsBad, List.any_eq_true]
  exact ⟨k, List.mem_range.2 hk, by rw [decide_eq_false h]; rfl⟩
theorem unitsBad_miss {l : List Fi} (h : ∀ k, k < l.length → 0 < (l.getD k dI).q) : ¬ unitsBad l = true := by
  rw [unitsBad, List.any_eq_true]
  rintro ⟨k, hk, hd⟩
  rw [decide_eq_true (h k (List.mem_range.1 hk))] at hd
  cases hd
theorem chkE_one {L : List Int} (h : ¬ 64 < L.length) (h2 : chkE L ≠ 0) : chkE L = 1 := by
  unfold chkE at h2 ⊢
  rw [if_neg h] at h2 ⊢
  split at h2
  · rename_i e; rw [if_pos e]
  · exact absurd rfl h2
def bestE (L : List Int) (l : List Fi) (tol m : Int) : Int := if chkE L = 6 ∨ 32 < l.length then 6 else if chkE L ≠ 0 ∨ unitsBad l = true then 1 else if limE tol m ≠ 0 then 2 else if L.length = 0 ∨ l.length = 0 then 7 else 0
section
variable {L : List Int} {l : List Fi} {tol m : Int}
theorem bestE_6 (h : chkE L = 6 ∨ 32 < l.length) : bestE L l tol m = 6 := if_pos h
theorem bestE_1 (h : ¬ (chkE L = 6 ∨ 32 < l.length)) (h1 : chkE L ≠ 0 ∨ unitsBad l = true) : bestE L l tol m = 1 := by unfold bestE; rw [if_neg h, if_pos h1]
theorem bestE_2 (h : ¬ (chkE L = 6 ∨ 32 < l.length)) (h1 : ¬ (chkE L ≠ 0 ∨ unitsBad l = true)) (h2 : limE tol m ≠ 0) : bestE L l tol m = 2 := by unfold bestE; rw [if_neg h, if_neg h1, if_pos h2]
theorem bestE_7 (h : ¬ (chkE L = 6 ∨ 32 < l.length)) (h1 : ¬ (chkE L ≠ 0 ∨ unitsBad l = true)) (h2 : ¬ limE tol m ≠ 0) (h3 : L.length = 0 ∨ l.length = 0) : bestE L l tol m = 7 := by unfold bestE; rw [if_neg h, if_neg h1, if_neg h2, if_pos h3]
theorem bestE_0 (h : ¬ (chkE L = 6 ∨ 32 < l.length)) (h1 : ¬ (chkE L ≠ 0 ∨ unitsBad l = true)) (h2 : ¬ limE tol m ≠ 0) (h3 : ¬ (L.length = 0 ∨ l.length = 0)) : bestE L l tol m = 0 := by unfold bestE; rw [if_neg h, if_neg h1, if_neg h2, if_neg h3]
def bst (L : List Int) (l : List Fi) (tol m : Int) : Nat → Nat × Int × Option Rat
  | 0 => (0, -1, none)
  | i + 1 => if (bst L l tol m i).2.1 < scoK L (l.getD i dI).q tol m ∨ (scoK L (l.getD i dI).q tol m = (bst L l tol m i).2.1 ∧ fval (errO L (l.getD i dI).q m) < fval (bst L l tol m i).2.2) then (i, scoK L (l.getD i dI).q tol m, errO L (l.getD i dI).q m) else bst L l tol m i
def bestK (L : List Int) (l : List Fi) (tol m : Int) : Int := if bestE L l tol m = 0 then (((bst L l tol m l.length).1 : Nat) : Int) else 0
theorem bestK_no (h : bestE L l tol m ≠ 0) : bestK L l tol m = 0 := if_neg h
theorem bestK_ok (h : bestE L l tol m = 0) : bestK L l tol m = (((bst L l tol m l.length).1 : Nat) : Int) := if_pos h
theorem bst_up {i k : Nat} {s : Int} {o : Option Rat} (h : bst L l tol m i = (k, s, o)) (hc : s < scoK L (l.getD i dI).q tol m ∨ (scoK L (l.getD i dI).q tol m = s ∧ fval (errO L (l.getD i dI).q m) < fval o)) : bst L l tol m (i + 1) = (i, scoK L (l.getD i dI).q tol m, errO L (l.getD i dI).q m) := by
  rw [bst, h]; exact if_pos hc
theorem bst_no {i k : Nat} {s : Int} {o : Option Rat} (h : bst L l tol m i = (k, s, o)) (hc : ¬ (s < scoK L (l.getD i dI).q tol m ∨ (scoK L (l.getD i dI).q tol m = s ∧ fval (errO L (l.getD i dI).q m) < fval o))) : bst L l tol m (i + 1) = (k, s, o) := by
  rw [bst, h]; exact if_neg hc
theorem scoK_nn (L : List Int) (u : Rat) (tol m : Int) : 0 ≤ scoK L u tol m := by
  unfold scoK
  split
  · exact (scoN_in L u tol m _).1
  · exact Int.le_refl _
theorem bst_one : bst L l tol m 1 = (0, scoK L (l.getD 0 dI).q tol m, errO L (l.getD 0 dI).q m) := bst_up (k := 0) (s := -1) (o := none) rfl (.inl (by have := scoK_nn L (l.getD 0 dI).q tol m; omega))
theorem qs_bst (hl : ∀ x ∈ l, x.ok 4) : ∀ {i : Nat}, i ≤ l.length → qs (fval (bst L l tol m i).2.2) 12
  | 0, _ => qs_zero.mono (by decide)
  | i + 1, hi => by
    rw [bst]
    split
    · exact qs_errO (FIn.qs (hl _ (fi_mem (by omega))))
    · exact qs_bst hl (by omega)
end
end Go.Fw
