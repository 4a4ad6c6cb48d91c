/- Chapter 16: matrices written row by row; the least of these lists; the search of the program finds it. Plain. -/
import Derived.Test.YtmambmpohkollaaGreatDoorCnE
namespace Go.Fw.Cn
open Go Go.RowKit Go.Fw
def en (M : List (List Int)) (r c : Nat) : Int := (M.getD r []).getD c 0
def wrB (M : List (List Int)) (p q : List Nat) : List Int := p.flatMap fun r => q.map fun c => en M r c
def wr (M : List (List Int)) (p q : List Nat) : List Int := (p.length : Int) :: (q.length : Int) :: wrB M p q
theorem wrB_len (M : List (List Int)) (p q : List Nat) : (wrB M p q).length = p.length * q.length :=
  len_flatMap fun _ _ => List.length_map _
theorem wr_len (M : List (List Int)) (p q : List Nat) : (wr M p q).length = p.length * q.length + 2 := by
  show (wrB M p q).length + 1 + 1 = _; rw [wrB_len]
theorem fl_cols (M : List (List Int)) (q : List Nat) : ∀ p : List Nat, fl p.length (q.map fun c => colV M c p) = wrB M p q
  | [] => rfl
  | r :: p => by
    rw [List.length_cons, fl]
    have h1 : hd (q.map fun c => colV M c (r :: p)) = q.map fun c => en M r c := by
      unfold hd; rw [List.map_map]; rfl
    have h2 : tl (q.map fun c => colV M c (r :: p)) = q.map fun c => colV M c p := by
      unfold tl; rw [List.map_map]; rfl
    rw [h1, h2, fl_cols M q p]; rfl
theorem perm_map_lift {α β : Type} [DecidableEq α] {f : α → β} : ∀ {D : List β} {l : List α}, D.Perm (l.map f) → ∃ q : List α, q.Perm l ∧ q.map f = D
  | [], l, h => by
    have : l = [] := by simpa using h.length_eq.symm
    subst this; exact ⟨[], .refl _, rfl⟩
  | d :: D, l, h => by
    obtain ⟨c, hc, e⟩ := List.mem_map.1 (h.mem_iff.1 List.mem_cons_self)
    have h2 : l.Perm (c :: l.erase c) := List.perm_cons_erase hc
    have h3 := h.trans (h2.map f)
    rw [List.map_cons, e] at h3
    obtain ⟨q, hq, hm⟩ := perm_map_lift (List.Perm.cons_inv h3)
    exact ⟨c :: q, (hq.cons c).trans h2.symm, by rw [List.map_cons, e, hm]⟩
theorem pre_of_perm {n : Nat} {p : List Nat} (h : p.Perm (List.range n)) : Pre n n p :=
  ⟨by rw [h.length_eq, List.length_range], h.nodup_iff.2 List.nodup_range, fun v hv => List.mem_range.1 (h.mem_iff.1 hv)⟩
theorem colP_perm {M : List (List Int)} {w : Nat} {p q : List Nat} (hq : Pre w w q) : (q.map fun c => colV M c p).Perm (colP M w p) := hq.perm.map _
/-- The program's list for an order of the rows. -/
def flP (M : List (List Int)) (w : Nat) (p : List Nat) : List Int := (M.length : Int) :: (w : Int) :: fl M.length (srtL (colP M w p))
theorem flP_mem {M : List (List Int)} {w : Nat} {p : List Nat} (hp : Pre M.length M.length p) : ∃ q, Pre w w q ∧ flP M w p = wr M p q := by
  obtain ⟨q, hq, hm⟩ := perm_map_lift (D := srtL (colP M w p)) (l := List.range w) (f := fun c => colV M c p) (srtL_perm _)
  have hq := pre_of_perm hq
  refine ⟨q, hq, ?_⟩
  unfold flP wr
  rw [← hm, hp.len, hq.len]
  have := fl_cols M q p
  rw [hp.len] at this
  rw [this]
theorem leL_cons {x : Int} {l m : List Int} : leL (x :: l) (x :: m) ↔ leL l m := by unfold leL; rw [cmpLL_cons_iff]
theorem flP_le {M : List (List Int)} {w : Nat} {p q : List Nat} (hp : Pre M.length M.length p) (hq : Pre w w q) : leL (flP M w p) (wr M p q) := by
  unfold flP wr
  rw [hp.len, hq.len, leL_cons, leL_cons]
  have := fl_cols M q p
  rw [hp.len] at this
  rw [← this]
  exact fl_least (colP_perm hq) fun c hc => by rw [colP_all hc, hp.len]
/-- The least list of a matrix. -/
def IsCode (M : List (List Int)) (w : Nat) (B : List Int) : Prop := (∃ p q, Pre M.length M.length p ∧ Pre w w q ∧ B = wr M p q) ∧ ∀ p q, Pre M.length M.length p → Pre w w q → leL B (wr M p q)
theorem IsCode.uniq {M : List (List Int)} {w : Nat} {B B' : List Int} (h : IsCode M w B) (h' : IsCode M w B') : B = B' := by
  obtain ⟨⟨p, q, hp, hq, rfl⟩, h2⟩ := h
  obtain ⟨⟨p', q', hp', hq', rfl⟩, h2'⟩ := h'
  exact (h2 p' q' hp' hq').anti (h2' p q hp hq)
theorem IsCode.len {M : List (List Int)} {w : Nat} {B : List Int} (h : IsCode M w B) : B.length = M.length * w + 2 := by
  obtain ⟨⟨p, q, hp, hq, rfl⟩, _⟩ := h
  rw [wr_len, hp.len, hq.len]
theorem IsCode.ne {M : List (List Int)} {w : Nat} {B : List Int} (h : IsCode M w B) : B ≠ [] := fun e => by have := h.len; rw [e] at this; simp at this
/-- One step of the program's search. -/
def cdS (M : List (List Int)) (w : Nat) (B : List Int) (p : List Nat) : List Int × Bool := (if B = [] ∨ cmpLL (flP M w p) B < 0 then flP M w p else B, true)
def LeastOf (M : List (List Int)) (w : Nat) (L : List (List Nat)) (B : List Int) : Prop := (∃ p ∈ L, B = flP M w p) ∧ ∀ p ∈ L, leL B (flP M w p)
theorem cdS_fold {M : List (List Int)} {w : Nat} : ∀ {L L0 : List (List Nat)} {B : List Int}, LeastOf M w L0 B → ∃ B', foldS (cdS M w) B L = (B', true) ∧ LeastOf M w (L0 ++ L) B'
  | [], L0, B, h => ⟨B, rfl, by rw [List.append_nil]; exact h⟩
  | p :: L, L0, B, h => by
    have key : LeastOf M w (L0 ++ [p]) (cdS M w B p).1 := by
      obtain ⟨⟨p0, h0, e⟩, h1⟩ := h
      unfold cdS
      dsimp only
      split
      · rename_i hc
        have hlt : cmpLL (flP M w p) B < 0 := hc.resolve_left fun e2 => by rw [e2] at e; unfold flP at e; cases e
        refine ⟨⟨p, by simp, rfl⟩, fun q hq => ?_⟩
        rcases List.mem_append.1 hq with hq | hq
        · exact leL.trans (show leL _ B by unfold leL; omega) (h1 q hq)
        · rw [List.mem_singleton.1 hq]; exact leL.rfl
      · rename_i hc
        refine ⟨⟨p0, List.mem_append_left _ h0, e⟩, fun q hq => ?_⟩
        rcases List.mem_append.1 hq with hq | hq
        · exact h1 q hq
        · rw [List.mem_singleton.1 hq]
          unfold leL
          rw [cmpLL_neg]
          have : ¬ cmpLL (flP M w p) B < 0 := fun h => hc (.inr h)
          omega
    obtain ⟨B', h1, h2⟩ := cdS_fold (L := L) key
    refine ⟨B', ?_, by rwa [List.append_assoc] at h2⟩
    rw [foldS, if_pos (show (cdS M w B p).2 = true from rfl)]
    exact h1
theorem ordF_ne (n : Nat) : ∃ p L, ordF n n = p :: L := by
  cases h : ordF n n with
  | nil =>
    have := (mem_ordF (n := n) (k := n) (p := List.range n)).2 (pre_of_perm (.refl _))
    rw [h] at this; cases this
  | cons p L => exact ⟨p, L, rfl⟩
/-- The program's search ends with the least list. -/
theorem cdS_all (M : List (List Int)) (w : Nat) : ∃ B, foldS (cdS M w) [] (ordF M.length M.length) = (B, true) ∧ IsCode M w B := by
  obtain ⟨p, L, h⟩ := ordF_ne M.length
  have h1 : LeastOf M w [p] (cdS M w [] p).1 := by
    have e : (cdS M w [] p).1 = flP M w p := by unfold cdS; rw [if_pos (.inl rfl)]
    rw [e]
    exact ⟨⟨p, by simp, rfl⟩, fun q hq => by rw [List.mem_singleton.1 hq]; exact leL.rfl⟩
  obtain ⟨B, h2, ⟨p0, h0, e⟩, h3⟩ := cdS_fold (L := L) h1
  refine ⟨B, by rw [h, foldS, if_pos (show (cdS M w [] p).2 = true from rfl)]; exact h2, ?_, fun p' q' hp' hq' => ?_⟩
  · have hp0 : Pre M.length M.length p0 := mem_ordF.1 (by rw [h]; simpa using h0)
    obtain ⟨q, hq, e2⟩ := flP_mem (w := w) hp0
    exact ⟨p0, q, hp0, hq, by rw [e, e2]⟩
  · have hm : p' ∈ [p] ++ L := by have := mem_ordF.2 hp'; rw [h] at this; simpa using this
    exact (h3 p' hm).trans (flP_le hp' hq')
/-- Where the reference's search stands. -/
def LTo (M : List (List Int)) (w : Nat) (i k : Nat) (B : List Int) : Prop :=
  (∃ p q, Pre M.length M.length p ∧ Pre w w q ∧ B = wr M p q) ∧ ∀ i' k', i' < (ordF M.length M.length).length → k' < (ordF w w).length → (i' < i ∨ i' = i ∧ k' < k) → leL B (wr M ((ordF M.length M.length).getD i' []) ((ordF w w).getD k' []))
theorem ord_get {n i : Nat} (h : i < (ordF n n).length) : Pre n n ((ordF n n).getD i []) := by
  rw [List.getD_eq_getElem?_getD, List.getElem?_eq_getElem h]
  exact mem_ordF.1 (List.getElem_mem h)
theorem ord_pos (n : Nat) : 0 < (ordF n n).length := by obtain ⟨p, L, h⟩ := ordF_ne n; rw [h]; simp
theorem LTo.zero (M : List (List Int)) (w : Nat) : LTo M w 0 0 (wr M ((ordF M.length M.length).getD 0 []) ((ordF w w).getD 0 [])) :=
  ⟨⟨_, _, ord_get (ord_pos _), ord_get (ord_pos _), rfl⟩, fun _ _ _ _ h => by omega⟩
theorem LTo.row {M : List (List Int)} {w i : Nat} {B : List Int} (h : LTo M w i (ordF w w).length B) : LTo M w (i + 1) 0 B :=
  ⟨h.1, fun i' k' h1 h2 h3 => h.2 i' k' h1 h2 (by omega)⟩
theorem LTo.yes {M : List (List Int)} {w i k : Nat} {B : List Int} (h : LTo M w i k B) (hi : i < (ordF M.length M.length).length) (hk : k < (ordF w w).length) (hc : cmpLL (wr M ((ordF M.length M.length).getD i []) ((ordF w w).getD k [])) B < 0) :
    LTo M w i (k + 1) (wr M ((ordF M.length M.length).getD i []) ((ordF w w).getD k [])) :=
  ⟨⟨_, _, ord_get hi, ord_get hk, rfl⟩, fun i' k' h1 h2 h3 => by
    by_cases e : i' = i ∧ k' = k
    · rw [e.1, e.2]; exact leL.rfl
    · exact leL.trans (show leL _ B by unfold leL; omega) (h.2 i' k' h1 h2 (by omega))⟩
theorem LTo.no {M : List (List Int)} {w i k : Nat} {B : List Int} (h : LTo M w i k B) (hc : ¬ cmpLL (wr M ((ordF M.length M.length).getD i []) ((ordF w w).getD k [])) B < 0) : LTo M w i (k + 1) B :=
  ⟨h.1, fun i' k' h1 h2 h3 => by
    by_cases e : i' = i ∧ k' = k
    · rw [e.1, e.2]; unfold leL; rw [cmpLL_neg]; omega
    · exact h.2 i' k' h1 h2 (by omega)⟩
theorem LTo.done {M : List (List Int)} {w : Nat} {B : List Int} (h : LTo M w (ordF M.length M.length).length 0 B) : IsCode M w B := by
  refine ⟨h.1, fun p q hp hq => ?_⟩
  obtain ⟨i, hi, e1⟩ := List.mem_iff_getElem.1 (mem_ordF.2 hp)
  obtain ⟨k, hk, e2⟩ := List.mem_iff_getElem.1 (mem_ordF.2 hq)
  have := h.2 i k hi hk (.inl hi)
  rw [List.getD_eq_getElem?_getD, List.getElem?_eq_getElem hi, List.getD_eq_getElem?_getD, List.getElem?_eq_getElem hk] at this
  rw [← e1, ← e2]; exact this
theorem IsCode.lto {M : List (List Int)} {w i k : Nat} {B : List Int} (h : LTo M w i k B) : B.length = M.length * w + 2 := by
  obtain ⟨⟨p, q, hp, hq, rfl⟩, _⟩ := h
  rw [wr_len, hp.len, hq.len]
end Go.Fw.Cn
