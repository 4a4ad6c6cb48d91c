/- Chapter 40: no falling list costs less than the fit; the blocks of the fit. Plain numbers, no program. -/
import Derived.Test.YtgfldmhpindbpaaDoorIsoD
namespace Go.Fw
open Go Go.RowKit Go.Nat9

section
variable {V W : List Int} {n : Nat} {F G : Nat → Rat}
def cst (V W : List Int) (F : Nat → Rat) : Nat → Rat
  | 0 => 0
  | i + 1 => cst V W F i + ((W.getD i 0 : Int) : Rat) * ((((V.getD i 0 : Int) : Rat) - F i) * (((V.getD i 0 : Int) : Rat) - F i))
def sqd (W : List Int) (F G : Nat → Rat) : Nat → Rat
  | 0 => 0
  | i + 1 => sqd W F G i + ((W.getD i 0 : Int) : Rat) * ((F i - G i) * (F i - G i))
def crs (V W : List Int) (F G : Nat → Rat) : Nat → Rat
  | 0 => 0
  | i + 1 => crs V W F G i + ((W.getD i 0 : Int) : Rat) * ((((V.getD i 0 : Int) : Rat) - F i) * (F i - G i))
theorem cst_congr : ∀ {m : Nat}, (∀ k, k < m → F k = G k) → cst V W F m = cst V W G m
  | 0, _ => rfl
  | m + 1, h => by rw [cst, cst, cst_congr (m := m) (fun k hk => h k (by omega)), h m (by omega)]
theorem cst_split : ∀ m, cst V W G m = cst V W F m + sqd W F G m + 2 * crs V W F G m
  | 0 => by show (0 : Rat) = 0 + 0 + 2 * 0; grind
  | m + 1 => by rw [cst, cst, sqd, crs, cst_split m]; grind
theorem sq_nonneg (x : Rat) : 0 ≤ x * x := by
  rcases Rat.le_total (a := 0) (b := x) with h | h
  · exact Rat.mul_nonneg h h
  · have := Rat.mul_nonneg (show 0 ≤ -x from by grind) (show 0 ≤ -x from by grind)
    grind
theorem sqd_nonneg (hW : ∀ i, i < n → 0 ≤ W.getD i 0) : ∀ {m : Nat}, m ≤ n → 0 ≤ sqd W F G m
  | 0, _ => Rat.le_refl
  | m + 1, hm => by
    have h1 := sqd_nonneg hW (m := m) (by omega)
    have h2 : (0 : Rat) ≤ ((W.getD m 0 : Int) : Rat) := Rat.intCast_le_intCast.2 (hW m (by omega))
    have h3 := Rat.mul_nonneg h2 (sq_nonneg (F m - G m))
    rw [sqd]; grind
theorem sqd_zero (hW : ∀ i, i < n → 1 ≤ W.getD i 0) : ∀ {m : Nat}, m ≤ n → sqd W F G m ≤ 0 → ∀ k, k < m → F k = G k
  | 0, _, _, k, hk => absurd hk (Nat.not_lt_zero k)
  | m + 1, hm, h, k, hk => by
    have h1 := sqd_nonneg (n := n) (W := W) (F := F) (G := G) (fun i hi => by have := hW i hi; omega) (show m ≤ n from by omega)
    have h2 : (1 : Rat) ≤ ((W.getD m 0 : Int) : Rat) := Rat.intCast_le_intCast.2 (hW m (by omega))
    have h3 := sq_nonneg (F m - G m)
    have h4 := Rat.mul_nonneg (show (0 : Rat) ≤ ((W.getD m 0 : Int) : Rat) - 1 from by grind) h3
    rw [sqd] at h
    have h5 : (F m - G m) * (F m - G m) = 0 := Rat.le_antisymm (by grind) h3
    have h6 : F m = G m := by
      rcases Rat.mul_eq_zero.1 h5 with e | e <;> grind
    rcases Nat.eq_or_lt_of_le (Nat.le_of_lt_succ hk) with e | e
    · rw [e]; exact h6
    · exact sqd_zero hW (m := m) (by omega) (by grind) k e
theorem crs_block {b : Blk} {p : Nat} (hb : Loc V W b p) (hG : ∀ i j, i ≤ j → j < p + b.z → G j ≤ G i) (hF : ∀ k, p ≤ k → k < p + b.z → F k = bval b) : ∀ {d : Nat}, d < b.z →
    crs V W F G p + (FF V W (bval b) (p + d + 1) - FF V W (bval b) p) * (bval b - G (p + d)) ≤ crs V W F G (p + d + 1)
  | 0, hd => by
    simp only [Nat.add_zero]
    rw [crs, FF_step, hF p (by omega) (by omega)]
    exact rle_of_eq (by grind)
  | d + 1, hd => by
    have ih := crs_block hb hG hF (d := d) (by omega)
    have h1 := hb.beg (p + d + 1) (by omega) (by omega)
    have h2 := hG (p + d) (p + (d + 1)) (by omega) (by omega)
    have h3 := Rat.mul_nonneg (show 0 ≤ FF V W (bval b) p - FF V W (bval b) (p + d + 1) from by grind) (show 0 ≤ G (p + d) - G (p + (d + 1)) from by grind)
    rw [crs, FF_step, hF (p + (d + 1)) (by omega) (by omega)]
    rw [show p + (d + 1) = p + d + 1 from rfl] at h2 h3 ⊢
    generalize crs V W F G (p + d + 1) = c1 at *
    generalize crs V W F G p = c0 at *
    generalize FF V W (bval b) (p + d + 1) = f1 at *
    generalize FF V W (bval b) p = f0 at *
    generalize G (p + d + 1) = g1 at *
    generalize G (p + d) = g0 at *
    generalize ((W.getD (p + d + 1) 0 : Int) : Rat) = w at *
    generalize ((V.getD (p + d + 1) 0 : Int) : Rat) = v at *
    grind
theorem Stk.crs : ∀ {S : List Blk} {m : Nat}, Stk V W S m → (∀ k, k < m → F k = (fitB S.reverse).getD k 0) → (∀ i j, i ≤ j → j < m → G j ≤ G i) → 0 ≤ Go.Fw.crs V W F G m
  | [], m, h, _, _ => by
    obtain rfl : m = 0 := h
    exact Rat.le_refl
  | b :: S, m, h, hF, hG => by
    have hlen' := (Stk.sum (F := F) h hF).2
    obtain ⟨p, rfl, hb, hS, _⟩ := h
    have hlen : (fitB S.reverse).length = p := by
      rw [fitB_snoc, List.length_append, List.length_replicate] at hlen'; omega
    have ih := Stk.crs hS (fun k hk => by rw [hF k (by omega), fitB_snoc, List.getD_eq_getElem?_getD, List.getElem?_append_left (by omega), ← List.getD_eq_getElem?_getD]) (fun i j h1 h2 => hG i j h1 (by omega))
    have hc : ∀ k, p ≤ k → k < p + b.z → F k = bval b := fun k h1 h2 => by
      rw [hF k h2, fitB_snoc, List.getD_eq_getElem?_getD, List.getElem?_append_right (by omega), hlen, List.getElem?_replicate, if_pos (by omega)]; rfl
    have hz := hb.z
    have h1 := crs_block (F := F) (G := G) hb (fun i j h1 h2 => hG i j h1 h2) hc (d := b.z - 1) (by omega)
    rw [show p + (b.z - 1) + 1 = p + b.z from by omega, hb.eq] at h1
    grind
theorem fit_least (h : chk V W = 0) (hG : ∀ i j, i ≤ j → j < V.length → G j ≤ G i) :
    cst V W (fun k => (fitL V W).getD k 0) V.length ≤ cst V W G V.length ∧ (cst V W G V.length = cst V W (fun k => (fitL V W).getD k 0) V.length ↔ ∀ k, k < V.length → G k = (fitL V W).getD k 0) := by
  obtain ⟨_, _, hok⟩ := chk_zero h
  have h1 := cst_split (V := V) (W := W) (F := fun k => (fitL V W).getD k 0) (G := G) V.length
  have h2 : 0 ≤ crs V W (fun k => (fitL V W).getD k 0) G V.length := Stk.crs (S := blkR V W V.length) (stk_blkR hok (Nat.le_refl _)) (fun k _ => by unfold fitL blkL; rw [if_pos h]) hG
  have hw : ∀ i, i < V.length → 1 ≤ W.getD i 0 := fun i hi => (hok i hi).2.2.1
  have h3 := sqd_nonneg (n := V.length) (W := W) (F := fun k => (fitL V W).getD k 0) (G := G) (fun i hi => by have := hw i hi; omega) (Nat.le_refl V.length)
  refine ⟨by grind, fun e k hk => ?_, fun e => cst_congr e⟩
  exact (sqd_zero (F := fun k => (fitL V W).getD k 0) (G := G) hw (Nat.le_refl V.length) (by grind) k hk).symm
theorem fit_falls (h : chk V W = 0) {i j : Nat} (hij : i ≤ j) (hj : j < V.length) : (fitL V W).getD j 0 ≤ (fitL V W).getD i 0 := by
  obtain ⟨_, _, hok⟩ := chk_zero h
  obtain ⟨p, q, h1, h2, h3, h4, h5⟩ := fit_is h (k := i) (by omega)
  obtain ⟨p', q', a1, a2, a3, a4, a5⟩ := fit_is h hj
  have e1 := mean_ge hok (show p < q' from by omega) a3 (a5 p (by omega))
  have e2 := mean_le hok (show p < q' from by omega) a3 (h4 q' a3)
  exact Rat.le_trans e1 e2
/-! ## The blocks -/
theorem Stk.zsum : ∀ {S : List Blk} {m : Nat}, Stk V W S m → Go.Fw.zsum S = m
  | [], m, h => (show m = 0 from h).symm
  | b :: S, m, h => by
    obtain ⟨p, rfl, _, hS, _⟩ := h
    rw [zsum_cons, Stk.zsum hS]; omega
theorem Stk.nth : ∀ {S : List Blk} {m : Nat}, Stk V W S m → ∀ t, t < S.length → Loc V W (S.reverse.getD t dB) (Go.Fw.zsum (S.reverse.take t)) ∧ (0 < t → bval (S.reverse.getD t dB) < bval (S.reverse.getD (t - 1) dB))
  | [], _, _, t, ht => absurd ht (Nat.not_lt_zero t)
  | b :: S, m, h, t, ht => by
    obtain ⟨p, rfl, hb, hS, hd⟩ := h
    have ih := Stk.nth hS
    have hzs := Stk.zsum hS
    rw [List.length_cons] at ht
    have lo : ∀ j, j < S.length → (S.reverse ++ [b]).getD j dB = S.reverse.getD j dB := fun j hj => by
      rw [List.getD_eq_getElem?_getD, List.getElem?_append_left (by simpa using hj), ← List.getD_eq_getElem?_getD]
    have hi : (S.reverse ++ [b]).getD S.length dB = b := by
      rw [List.getD_eq_getElem?_getD, List.getElem?_append_right (by simp)]; simp
    rw [List.reverse_cons]
    rcases Nat.lt_or_ge t S.length with h1 | h1
    · rw [lo t h1, lo (t - 1) (by omega), List.take_append_of_le_length (by simp; omega)]
      exact ih t h1
    · obtain rfl : t = S.length := by omega
      rw [hi, List.take_append_of_le_length (by simp), List.take_of_length_le (by simp), zsum_rev, hzs]
      refine ⟨hb, fun h0 => ?_⟩
      rw [lo (S.length - 1) (by omega)]
      cases S with
      | nil => exact absurd h0 (Nat.lt_irrefl 0)
      | cons a S =>
        have := hd a rfl
        rw [List.length_cons, Nat.add_sub_cancel, List.reverse_cons, List.getD_eq_getElem?_getD, List.getElem?_append_right (by simp)]
        simpa using this
theorem fitB_nth (B : List Blk) {t i : Nat} (ht : t < B.length) (h1 : zsum (B.take t) ≤ i) (h2 : i < zsum (B.take t) + (B.getD t dB).z) : (fitB B).getD i 0 = bval (B.getD t dB) := by
  have e : fitB B = fitB (B.take t) ++ (List.replicate (B.getD t dB).z (bval (B.getD t dB)) ++ fitB (B.drop (t + 1))) := by
    have : fitB (B.take (t + 1) ++ B.drop (t + 1)) = fitB (B.take (t + 1)) ++ fitB (B.drop (t + 1)) := by unfold fitB; exact List.flatMap_append
    rw [List.take_append_drop] at this
    rw [this, ← List.append_assoc]
    congr 1
    exact fitB_take B t ht
  rw [e, List.getD_eq_getElem?_getD, List.getElem?_append_right (by rw [fitB_len]; exact h1), List.getElem?_append_left (by rw [fitB_len, List.length_replicate]; omega), List.getElem?_replicate, if_pos (by rw [fitB_len]; omega)]
  rfl
/-- where block t begins -/
def bg (V W : List Int) (t : Nat) : Nat := zsum ((blkL V W).take t)
theorem bg_zero : bg V W 0 = 0 := rfl
theorem bg_end (h : chk V W = 0) : bg V W (blkL V W).length = V.length := by unfold bg; rw [List.take_of_length_le (Nat.le_refl _)]; exact zsum_blkL h
structure BlockAt (V W : List Int) (t : Nat) : Prop where
  lt : bg V W t < bg V W (t + 1)
  le : bg V W (t + 1) ≤ V.length
  part : ∀ i, bg V W t ≤ i → i < bg V W (t + 1) → meanq V W (bg V W t) (i + 1) ≤ meanq V W (bg V W t) (bg V W (t + 1)) ∧ (fitL V W).getD i 0 = meanq V W (bg V W t) (bg V W (t + 1))
  fall : 0 < t → 0 < bg V W t ∧ (fitL V W).getD (bg V W t) 0 < (fitL V W).getD (bg V W t - 1) 0
theorem bg_succ {t : Nat} (ht : t < (blkL V W).length) : bg V W (t + 1) = bg V W t + ((blkL V W).getD t dB).z := by
  have := stB_succ (blkL V W) t ht
  unfold stB at this
  unfold bg
  omega
theorem block_at (h : chk V W = 0) {t : Nat} (ht : t < (blkL V W).length) : BlockAt V W t := by
  obtain ⟨_, _, hok⟩ := chk_zero h
  have hst := stk_blkR hok (Nat.le_refl V.length)
  have hlen : (blkL V W).length = (blkR V W V.length).length := by rw [blkL, List.length_reverse]
  have hfit : fitL V W = fitB (blkL V W) := if_pos h
  have loc : ∀ s, s < (blkL V W).length → Loc V W ((blkL V W).getD s dB) (bg V W s) ∧ (0 < s → bval ((blkL V W).getD s dB) < bval ((blkL V W).getD (s - 1) dB)) := fun s hs => Stk.nth hst s (by omega)
  have hle : ∀ s, s < (blkL V W).length → bg V W (s + 1) ≤ V.length := fun s hs => by
    have := zsum_take (blkL V W) hs
    rw [zsum_blkL h] at this
    rw [bg_succ hs]; unfold bg; exact this
  have val : ∀ s, s < (blkL V W).length → ∀ i, bg V W s ≤ i → i < bg V W (s + 1) → (fitL V W).getD i 0 = bval ((blkL V W).getD s dB) := fun s hs i h1 h2 => by
    rw [hfit]; rw [bg_succ hs] at h2; exact fitB_nth _ hs h1 h2
  obtain ⟨hL, hD⟩ := loc t ht
  have hz := hL.z
  have hs := bg_succ ht
  have hn := hle t ht
  have hmean : meanq V W (bg V W t) (bg V W (t + 1)) = bval ((blkL V W).getD t dB) := by
    unfold meanq bval
    rw [vsum_ps, wsum_pw, hs, show bg V W t + ((blkL V W).getD t dB).z - bg V W t = ((blkL V W).getD t dB).z from by omega, ← hL.s, ← hL.w]
  refine ⟨by omega, hn, fun i h1 h2 => ?_, fun h0 => ?_⟩
  · rw [hmean]
    exact ⟨mean_le hok (by omega) (by omega) (hL.beg (i + 1) (by omega) (by omega)), val t ht i h1 h2⟩
  · have hp := bg_succ (V := V) (W := W) (t := t - 1) (by omega)
    have hzp := (loc (t - 1) (by omega)).1.z
    rw [show t - 1 + 1 = t from by omega] at hp
    refine ⟨by omega, ?_⟩
    rw [val t ht _ (Nat.le_refl _) (by omega), val (t - 1) (by omega) (bg V W t - 1) (by omega) (by rw [show t - 1 + 1 = t from by omega]; omega)]
    exact hD h0
theorem begL_bg (h : chk V W = 0) : begL V W = (List.range (blkL V W).length).map fun t => ((bg V W t : Nat) : Int) := if_pos h
theorem bg_mono (h : chk V W = 0) {s t : Nat} (hst : s < t) (ht : t ≤ (blkL V W).length) : bg V W s < bg V W t := by
  obtain ⟨d, rfl⟩ := Nat.exists_eq_add_of_lt hst
  clear hst
  induction d with
  | zero => exact (block_at h (t := s) (by omega)).lt
  | succ d ih =>
    have h1 := ih (by omega)
    have h2 := (block_at h (t := s + d + 1) (by omega)).lt
    rw [show s + (d + 1) + 1 = s + d + 1 + 1 from by omega]
    omega
end
end Go.Fw
