/- Chapter 24: the least and the greatest place. Plain. -/
import Derived.Test.YtjdojhhngganeaaGreatDoorDgK
import Derived.Test.YtjdojhhngganeaaGreatDoorFwQ
namespace Go.Fw
open Go Go.RowKit Go.Nat9

theorem ConF.more {P : Program} {f : FuncId} {args : List Value} {φ : List VP} {Post : Value → List VP → Prop} (h : ConF P f args [] Post) : ConF P f args φ Post := fun w _ => h w (fun p hp => by cases hp)
theorem nodup_len : ∀ {l c : List Nat}, l.Nodup → (∀ x ∈ l, x ∈ c) → l.length ≤ c.length
  | [], _, _, _ => Nat.zero_le _
  | x :: l, c, hn, h => by
    have hn' := List.nodup_cons.1 hn
    have ih := nodup_len (l := l) (c := c.erase x) hn'.2 (fun y hy => (List.mem_erase_of_ne (fun e => hn'.1 (by rw [← e]; exact hy))).2 (h y (List.mem_cons_of_mem _ hy)))
    have hx := h x List.mem_cons_self
    rw [List.length_erase_of_mem hx] at ih
    have := List.length_pos_of_mem hx
    simp only [List.length_cons]; omega
theorem range_filter_nodup (n : Nat) (P : Nat → Bool) : ((List.range n).filter P).Nodup := List.nodup_range.sublist List.filter_sublist
theorem mem_take_idx {p : List Nat} {u : Nat} {k : Nat} (hu : u ∈ p) (h : p.idxOf u < k) : u ∈ p.take k := by
  have hl := List.idxOf_lt_length_of_mem hu
  refine List.mem_iff_getElem.2 ⟨p.idxOf u, by rw [List.length_take]; omega, ?_⟩
  rw [List.getElem_take]
  exact List.getElem_idxOf hl
theorem mem_drop_idx {p : List Nat} {u : Nat} {k : Nat} (hu : u ∈ p) (h : k ≤ p.idxOf u) : u ∈ p.drop k := by
  have hl := List.idxOf_lt_length_of_mem hu
  refine List.mem_iff_getElem.2 ⟨p.idxOf u - k, by rw [List.length_drop]; omega, ?_⟩
  rw [List.getElem_drop]
  have := List.getElem_idxOf hl
  simp only [show k + (p.idxOf u - k) = p.idxOf u from by omega]
  exact this
/-- Each sequence has room for those that reach it and those that it reaches. -/
theorem seq_room {n : Nat} {a : List Pr} (h : dgC n a) {p : List Nat} (hp : p ∈ seqsL n a) {v : Nat} (hv : v < n) : ancN n a v ≤ p.idxOf v ∧ p.idxOf v + 1 + dscN n a v ≤ n := by
  obtain ⟨_, hl, _, hm⟩ := seq_all hp
  have hvp := (hm v).2 hv
  have hvl := List.idxOf_lt_length_of_mem hvp
  constructor
  · have := nodup_len (l := (List.range n).filter fun u => decide (rc n a u v)) (c := p.take (p.idxOf v)) (range_filter_nodup _ _) (fun u hu => by
      obtain ⟨h1, h2⟩ := List.mem_filter.1 hu
      exact mem_take_idx ((hm u).2 (List.mem_range.1 h1)) (seq_rc h hp (of_decide_eq_true h2)))
    rw [List.length_take] at this
    unfold ancN; omega
  · have := nodup_len (l := (List.range n).filter fun u => decide (rc n a v u)) (c := p.drop (p.idxOf v + 1)) (range_filter_nodup _ _) (fun u hu => by
      obtain ⟨h1, h2⟩ := List.mem_filter.1 hu
      exact mem_drop_idx ((hm u).2 (List.mem_range.1 h1)) (seq_rc h hp (of_decide_eq_true h2)))
    rw [List.length_drop] at this
    unfold dscN; omega
theorem idx_mid {p q : List Nat} {v : Nat} (h : v ∉ p) : (p ++ v :: q).idxOf v = p.length := by
  rw [List.idxOf_append, if_neg h, List.idxOf_cons]
  simp
theorem seq_at_low {n : Nat} {a : List Pr} (h : Cert n a) {v : Nat} (hv : v < n) : ∃ p ∈ seqsL n a, p.idxOf v = ancN n a v := by
  obtain ⟨p, q, h1, h2, h3⟩ := seq_low h.dg h.acy hv
  exact ⟨_, h1, by rw [idx_mid (fun e => acy_rc.1 h.acy v ((h3 v).1 e)), h2]⟩
theorem seq_at_high {n : Nat} {a : List Pr} (h : Cert n a) {v : Nat} (hv : v < n) : ∃ p ∈ seqsL n a, p.idxOf v + 1 + dscN n a v = n := by
  obtain ⟨p, q, h1, h3⟩ := seq_high h.dg h.acy hv
  have hvp : v ∉ p := fun e => ((h3 v).1 e).2.1 rfl
  refine ⟨_, h1, ?_⟩
  obtain ⟨_, hl, hnd, hm⟩ := seq_all h1
  have hq := nodup_len (l := q) (c := (List.range n).filter fun u => decide (rc n a v u)) (List.nodup_cons.1 (List.nodup_append.1 hnd).2.1).2 (fun u hu => by
    have hun : u < n := (hm u).1 (List.mem_append_right _ (List.mem_cons_of_mem _ hu))
    refine List.mem_filter.2 ⟨List.mem_range.2 hun, decide_eq_true (Decidable.byContradiction fun hr => ?_)⟩
    have huv : u ≠ v := fun e => (List.nodup_cons.1 (List.nodup_append.1 hnd).2.1).1 (e ▸ hu)
    exact (List.nodup_append.1 hnd).2.2 u ((h3 u).2 ⟨hun, huv, hr⟩) u (List.mem_cons_of_mem _ hu) rfl)
  have hr := (seq_room h.dg h1 hv).2
  rw [idx_mid hvp] at hr ⊢
  rw [List.length_append, List.length_cons] at hl
  have : q.length ≤ dscN n a v := hq
  omega
theorem plc_pos {n : Nat} {a : List Pr} {i k : Nat} : 0 < plc n a i k ↔ ∃ p ∈ seqsL n a, p.idxOf i = k := by
  unfold plc
  constructor
  · intro h
    obtain ⟨p, hp⟩ := List.exists_mem_of_length_pos h
    obtain ⟨h1, h2⟩ := List.mem_filter.1 hp
    exact ⟨p, h1, of_decide_eq_true h2⟩
  · rintro ⟨p, h1, h2⟩
    exact List.length_pos_of_mem (List.mem_filter.2 ⟨h1, decide_eq_true h2⟩)
theorem low_high {n : Nat} {a : List Pr} (h : Cert n a) {v : Nat} (hv : v < n) : ancN n a v + 1 + dscN n a v ≤ n := by
  obtain ⟨p, h1, h2⟩ := seq_at_low h hv
  have := (seq_room h.dg h1 hv).2
  omega
theorem first_anc {n : Nat} {a : List Pr} (h : Cert n a) {v : Nat} (hv : v < n) {r : Int} (hr : firstI (fun k => decide (0 < (placeL n a v).getD k 0)) (placeL n a v).length r) : r = ((ancN n a v : Nat) : Int) := by
  have hlh := low_high h hv
  obtain ⟨p, h1, h2⟩ := seq_at_low h hv
  have hp : 0 < plc n a v (ancN n a v) := plc_pos.2 ⟨p, h1, h2⟩
  have hpl : decide (0 < (placeL n a v).getD (ancN n a v) 0) = true := decide_eq_true (by rw [placeL_at (by omega)]; omega)
  rw [placeL_len] at hr
  rcases hr with ⟨_, hr⟩ | ⟨k, hk, rfl, hk2, hk3⟩
  · have := hpl.symm.trans (hr _ (show ancN n a v < n by omega))
    cases this
  · have hk4 : 0 < plc n a v k := by
      have := of_decide_eq_true hk2
      rw [placeL_at hk] at this; omega
    obtain ⟨p', g1, g2⟩ := plc_pos.1 hk4
    have := (seq_room h.dg g1 hv).1
    rcases Nat.lt_or_ge (ancN n a v) k with e | e
    · have := hpl.symm.trans (hk3 _ e)
      cases this
    · rw [show k = ancN n a v from by omega]
def lastI (P : Nat → Bool) (z : Int) : Nat → Int
  | 0 => z
  | k + 1 => if P k = true then (k : Int) else lastI P z k
theorem lastI_at {P : Nat → Bool} {z : Int} {h : Nat} (hp : P h = true) : ∀ {n : Nat}, h < n → (∀ k, h < k → k < n → P k = false) → lastI P z n = (h : Int)
  | n + 1, hn, hk => by
    rw [lastI]
    by_cases e : h = n
    · subst e; rw [if_pos hp]
    · rw [hk n (by omega) (by omega), if_neg (by decide)]
      exact lastI_at hp (by omega) (fun k h1 h2 => hk k h1 (by omega))
theorem last_dsc {n : Nat} {a : List Pr} (h : Cert n a) {v : Nat} (hv : v < n) (z : Int) : lastI (fun k => decide (0 < (placeL n a v).getD k 0)) z n = (n : Int) - 1 - ((dscN n a v : Nat) : Int) := by
  have hlh := low_high h hv
  obtain ⟨p, h1, h2⟩ := seq_at_high h hv
  have hp : 0 < plc n a v (n - 1 - dscN n a v) := plc_pos.2 ⟨p, h1, by omega⟩
  rw [lastI_at (h := n - 1 - dscN n a v) (decide_eq_true (by rw [placeL_at (by omega)]; omega)) (by omega) (fun k h1 h2 => by
    refine decide_eq_false fun e => ?_
    rw [placeL_at h2] at e
    obtain ⟨p', g1, g2⟩ := plc_pos.1 (show 0 < plc n a v k by omega)
    have := (seq_room h.dg g1 hv).2
    omega)]
  omega
def lowP (n : Nat) (a : List Pr) : Nat → List Int
  | 0 => []
  | i + 1 => lowP n a i ++ [((ancN n a i : Nat) : Int)]
def higP (n : Nat) (a : List Pr) : Nat → List Int
  | 0 => []
  | i + 1 => higP n a i ++ [(n : Int) - 1 - ((dscN n a i : Nat) : Int)]
theorem lowP_len (n : Nat) (a : List Pr) : ∀ i, (lowP n a i).length = i
  | 0 => rfl
  | i + 1 => by rw [lowP, List.length_append, lowP_len n a i]; rfl
theorem higP_len (n : Nat) (a : List Pr) : ∀ i, (higP n a i).length = i
  | 0 => rfl
  | i + 1 => by rw [higP, List.length_append, higP_len n a i]; rfl
theorem getD_snoc (l : List Int) (x : Int) (k : Nat) : (l ++ [x]).getD k 0 = if k < l.length then l.getD k 0 else if k = l.length then x else 0 := by
  rw [List.getD_eq_getElem?_getD, List.getD_eq_getElem?_getD]
  by_cases h : k < l.length
  · rw [if_pos h, List.getElem?_append_left h]
  · rw [if_neg h, List.getElem?_append_right (by omega)]
    by_cases e : k = l.length
    · rw [if_pos e, e, Nat.sub_self]; rfl
    · rw [if_neg e, List.getElem?_eq_none (by simp; omega)]; rfl
theorem lowP_at (n : Nat) (a : List Pr) {k : Nat} : ∀ {i : Nat}, k < i → (lowP n a i).getD k 0 = ((ancN n a k : Nat) : Int)
  | i + 1, h => by
    rw [lowP, getD_snoc, lowP_len]
    by_cases e : k < i
    · rw [if_pos e]; exact lowP_at n a e
    · rw [if_neg e, if_pos (by omega), show k = i from by omega]
theorem higP_at (n : Nat) (a : List Pr) {k : Nat} : ∀ {i : Nat}, k < i → (higP n a i).getD k 0 = (n : Int) - 1 - ((dscN n a k : Nat) : Int)
  | i + 1, h => by
    rw [higP, getD_snoc, higP_len]
    by_cases e : k < i
    · rw [if_pos e]; exact higP_at n a e
    · rw [if_neg e, if_pos (by omega), show k = i from by omega]
def lowR (n : Int) (a : List Pr) : List Int := if seqE n a = 0 then lowP n.toNat a n.toNat else []
def higR (n : Int) (a : List Pr) : List Int := if seqE n a = 0 then higP n.toNat a n.toNat else []
theorem low_no {n : Int} {a : List Pr} (h : ¬ seqE n a = 0) : lowR n a = [] ∧ higR n a = [] := ⟨if_neg h, if_neg h⟩
theorem low_ok {n : Nat} {a : List Pr} (h : Cert n a) : lowR n a = lowP n a n ∧ higR n a = higP n a n := by
  unfold lowR higR
  rw [if_pos h.ok, if_pos h.ok, Int.toNat_natCast]
  exact ⟨rfl, rfl⟩
def fixP (n : Nat) (a : List Pr) : Nat → List Int
  | 0 => []
  | i + 1 => if ((ancN n a i : Nat) : Int) = (n : Int) - 1 - ((dscN n a i : Nat) : Int) then fixP n a i ++ [(i : Int)] else fixP n a i
theorem fixP_len (n : Nat) (a : List Pr) : ∀ i, (fixP n a i).length ≤ i
  | 0 => Nat.le_refl _
  | i + 1 => by
    have := fixP_len n a i
    rw [fixP]; split
    · rw [List.length_append]; simp; omega
    · omega
def fixR (n : Int) (a : List Pr) : List Int := if seqE n a = 0 then fixP n.toNat a n.toNat else []
theorem fix_no {n : Int} {a : List Pr} (h : ¬ seqE n a = 0) : fixR n a = [] := if_neg h
theorem fix_ok {n : Nat} {a : List Pr} (h : Cert n a) : fixR n a = fixP n a n := by
  unfold fixR
  rw [if_pos h.ok, Int.toNat_natCast]
theorem mem_fixP {n : Nat} {a : List Pr} {v : Nat} : ∀ {i : Nat}, v < i → ((v : Int) ∈ fixP n a i ↔ ((ancN n a v : Nat) : Int) = (n : Int) - 1 - ((dscN n a v : Nat) : Int))
  | i + 1, hv => by
    have hlt : ∀ k, ∀ x ∈ fixP n a k, ∃ u : Nat, x = (u : Int) ∧ u < k := by
      intro k
      induction k with
      | zero => intro x hx; cases hx
      | succ k ih =>
        intro x hx
        rw [fixP] at hx
        split at hx
        · rcases List.mem_append.1 hx with hx | hx
          · obtain ⟨u, h1, h2⟩ := ih x hx; exact ⟨u, h1, by omega⟩
          · exact ⟨k, List.mem_singleton.1 hx, by omega⟩
        · obtain ⟨u, h1, h2⟩ := ih x hx; exact ⟨u, h1, by omega⟩
    rw [fixP]
    by_cases e : v = i
    · subst e
      have hn : (v : Int) ∉ fixP n a v := fun hx => by
        obtain ⟨u, h1, h2⟩ := hlt v _ hx; omega
      by_cases c : ((ancN n a v : Nat) : Int) = (n : Int) - 1 - ((dscN n a v : Nat) : Int)
      · rw [if_pos c]; exact ⟨fun _ => c, fun _ => List.mem_append_right _ (List.mem_singleton.2 rfl)⟩
      · rw [if_neg c]; exact ⟨fun h => absurd h hn, fun h => absurd h c⟩
    · have ih := mem_fixP (n := n) (a := a) (v := v) (i := i) (by omega)
      by_cases c : ((ancN n a i : Nat) : Int) = (n : Int) - 1 - ((dscN n a i : Nat) : Int)
      · rw [if_pos c, ← ih, List.mem_append, List.mem_singleton]
        exact ⟨fun h => h.elim id (fun h => by omega), .inl⟩
      · rw [if_neg c, ih]
/-- two lists and an error -/
def LLE (R S : List Int) (er : Int) (v : Value) (φo : List VP) : Prop := ∃ (ad : Option Addr) (c : Nat) (be : Option Addr) (e : Nat), v = .tuple #[.slice ad R.length c, .slice be S.length e, .int .i64 er] ∧ φo = [vCells ad (i64s R), vCells be (i64s S)]
theorem getI_mem {l : List Int} {j : Nat} (h : j < l.length) : l.getD j 0 ∈ l := by
  rw [List.getD_eq_getElem?_getD, List.getElem?_eq_getElem h]; exact List.getElem_mem h
theorem no_memI {L : List Int} {x : Int} (h : ∀ j, j < L.length → L.getD j 0 ≠ x) : x ∉ L := fun hx => by
  obtain ⟨j, hj, e⟩ := List.mem_iff_getElem.1 hx
  exact h j hj (by rw [List.getD_eq_getElem?_getD, List.getElem?_eq_getElem hj, e]; rfl)
/-- Counting up. -/
def cnt (P : Nat → Bool) (n : Nat) : Nat := ((List.range n).filter P).length
theorem cnt_succ (P : Nat → Bool) (n : Nat) : cnt P (n + 1) = cnt P n + if P n = true then 1 else 0 := by
  unfold cnt
  rw [List.range_succ, List.filter_append, List.length_append, List.filter_cons, List.filter_nil]
  split <;> rfl
theorem cnt_le (P : Nat → Bool) (n : Nat) : cnt P n ≤ n := by
  unfold cnt
  exact Nat.le_trans (List.length_filter_le _ _) (by rw [List.length_range]; exact Nat.le_refl _)
theorem cnt_anc {n : Nat} {a : List Pr} (h : Cert n a) {v : Nat} (hv : v < n) : cnt (fun u => decide (rchC n a (u : Int) (v : Int))) n = ancN n a v := by
  unfold cnt ancN
  refine congrArg List.length (List.filter_congr fun u hu => ?_)
  exact decide_eq_decide.2 (rchC_iff h.dg (List.mem_range.1 hu) hv)
theorem cnt_dsc {n : Nat} {a : List Pr} (h : Cert n a) {v : Nat} (hv : v < n) : cnt (fun u => decide (rchC n a (v : Int) (u : Int))) n = dscN n a v := by
  unfold cnt dscN
  refine congrArg List.length (List.filter_congr fun u hu => ?_)
  exact decide_eq_decide.2 (rchC_iff h.dg hv (List.mem_range.1 hu))
theorem fix_dec {n : Nat} {a : List Pr} {v : Nat} (hv : v < n) : decide ((v : Int) ∈ fixP n a n) = decide (((ancN n a v : Nat) : Int) + ((dscN n a v : Nat) : Int) = (n : Int) - 1) :=
  decide_eq_decide.2 ((mem_fixP hv).trans (by omega))
end Go.Fw
