/- Chapter 40: what the reference keeps; where the fit changes. -/
import Derived.Test.YtgfldmhpindbpaaDoorIsoB
namespace Go.Fw
open Go Go.RowKit Go.Nat9

section
variable {V W : List Int} {n : Nat}
def lsto (V W : List Int) (n k : Nat) : Nat → Option Rat
  | 0 => none
  | i + 1 => some (lst V W n k i)
theorem lsto_first {i k d : Nat} {q : Rat} (hq : q = mst V W i k d) (hi : i = 0) (hd : d = n - (k + 1)) : some q = lsto V W n k (i + 1) := by
  subst hi hd hq; rfl
theorem lsto_less {i k d : Nat} {q : Rat} {o : Option Rat} (hq : q = mst V W i k d) (hd : d = n - (k + 1)) (hi : i ≠ 0) (ho : o = lsto V W n k i) (h : cmpQ q (fval o) < 0) : some q = lsto V W n k (i + 1) := by
  obtain ⟨i, rfl⟩ : ∃ m, i = m + 1 := ⟨i - 1, by omega⟩
  subst hd hq ho
  have h' : mst V W (i + 1) k (n - (k + 1)) < lst V W n k i := cmpQ_neg.1 h
  show _ = some (lst V W n k (i + 1))
  rw [lst, if_pos h']
theorem lsto_keep {i k d : Nat} {q : Rat} {o : Option Rat} (hq : q = mst V W i k d) (hd : d = n - (k + 1)) (hi : i ≠ 0) (ho : o = lsto V W n k i) (h : ¬ cmpQ q (fval o) < 0) : o = lsto V W n k (i + 1) := by
  obtain ⟨i, rfl⟩ : ∃ m, i = m + 1 := ⟨i - 1, by omega⟩
  subst hd hq ho
  have h' : ¬ mst V W (i + 1) k (n - (k + 1)) < lst V W n k i := fun e => h (cmpQ_neg.2 e)
  show some _ = some (lst V W n k (i + 1))
  rw [lst, if_neg h']
theorem mst_pick {i k d : Nat} {q : Rat} (hq : q = mst V W i k d) (h : cmpQ (meanq V W i (k + 2 + d)) q > 0) : meanq V W i (k + 2 + d) = mst V W i k (d + 1) := by
  subst hq; rw [mst, if_pos (cmpQ_pos.1 h)]
theorem mst_hold {i k d : Nat} {q : Rat} (hq : q = mst V W i k d) (h : ¬ cmpQ (meanq V W i (k + 2 + d)) q > 0) : q = mst V W i k (d + 1) := by
  subst hq; rw [mst, if_neg (fun e => h (cmpQ_pos.2 e))]
theorem qs_mst (h : chk V W = 0) {i k d : Nat} (hd : k + 1 + d ≤ V.length) : qs (mst V W i k d) 3 := by
  obtain ⟨j, h1, h2, h3⟩ := mst_eq (V := V) (W := W) (i := i) (k := k) (d := d)
  rw [h3]; exact qs_meanq h (by omega)
theorem qs_lst (h : chk V W = 0) {k t : Nat} (hk : k < V.length) : qs (lst V W V.length k t) 3 := by
  obtain ⟨i, _, h2⟩ := lst_eq (V := V) (W := W) (n := V.length) (k := k) (t := t)
  rw [h2]; exact qs_mst h (by omega)
theorem qs_lsto (h : chk V W = 0) {k i : Nat} (hk : k < V.length) {o : Option Rat} (ho : o = lsto V W V.length k i) : qs (fval o) 3 := by
  subst ho
  cases i with
  | zero => exact qs_zero.mono (by decide)
  | succ i => exact qs_lst h hk
theorem qs_rfit (V W : List Int) (k : Nat) : qs ((rfitL V W).getD k 0) 3 := by
  unfold rfitL
  split
  · rename_i h
    rw [List.getD_eq_getElem?_getD, List.getElem?_map]
    rcases Nat.lt_or_ge k V.length with hk | hk
    · rw [List.getElem?_range hk]; exact qs_lst h hk
    · rw [List.getElem?_eq_none (by simpa using hk)]; exact qs_zero.mono (by decide)
  · rw [List.getD_eq_getElem?_getD]; exact qs_zero.mono (by decide)
theorem fes_qs {l : List Fe} (hl : l.map (·.q) = rfitL V W) (j : Nat) : qs (l.getD j dF).q 3 := by rw [← map_getD, hl]; exact qs_rfit V W j
theorem fes_len {l : List Fe} (hl : l.map (·.q) = rfitL V W) : l.length ≤ V.length := by
  have := congrArg List.length hl
  rw [List.length_map] at this
  rw [this]
  unfold rfitL
  split
  · simp
  · exact Nat.zero_le _
/-- where a list changes -/
def rbeg (R : List Rat) : Nat → List Int
  | 0 => []
  | i + 1 => rbeg R i ++ (if i = 0 ∨ R.getD i 0 ≠ R.getD (i - 1) 0 then [(i : Int)] else [])
theorem rbeg_len (R : List Rat) : ∀ i, (rbeg R i).length ≤ i
  | 0 => Nat.le_refl _
  | i + 1 => by
    have := rbeg_len R i
    rw [rbeg, List.length_append]
    split <;> simp <;> omega
def rbegL (V W : List Int) : List Int := if chk V W = 0 then rbeg (rfitL V W) (rfitL V W).length else []
theorem rbegL_len (V W : List Int) : (rbegL V W).length ≤ V.length := by
  unfold rbegL
  by_cases h : chk V W = 0
  · rw [if_pos h]
    refine Nat.le_trans (rbeg_len _ _) ?_
    rw [rfitL, if_pos h]
    simp
  · rw [if_neg h]; exact Nat.zero_le _
def sts : List Blk → List Int
  | [] => []
  | _ :: S => sts S ++ [((zsum S : Nat) : Int)]
theorem sts_stB : ∀ S : List Blk, (List.range S.reverse.length).map (stB S.reverse) = sts S
  | [] => rfl
  | b :: S => by
    have ih := sts_stB S
    rw [sts, ← ih, List.reverse_cons, List.length_append, List.length_cons, List.length_nil, List.range_succ, List.map_append]
    congr 1
    · refine List.map_congr_left fun j hj => ?_
      have hj' : j < S.reverse.length := List.mem_range.1 hj
      unfold stB
      rw [List.take_append_of_le_length (by omega)]
    · simp only [List.map_cons, List.map_nil, stB]
      rw [List.take_append_of_le_length (by simp), List.take_of_length_le (by simp), zsum_rev]
theorem Tops.zsum : ∀ {S : List Blk} {m : Nat}, Tops V W n S m → zsum S = m
  | [], m, h => (show m = 0 from h).symm
  | b :: S, m, h => by
    obtain ⟨p, rfl, _, _, _, _, hS⟩ := h
    rw [zsum_cons, Tops.zsum hS]; omega
theorem Tops.beg {R : List Rat} : ∀ {S : List Blk} {m : Nat}, Tops V W n S m → (∀ k, k < m → R.getD k 0 = (fitB S.reverse).getD k 0) → rbeg R m = sts S
  | [], m, h, _ => by
    obtain rfl : m = 0 := h
    rfl
  | b :: S, m, h, hR => by
    have hzs := Tops.zsum h
    obtain ⟨p, rfl, hz, _, _, hd, hS⟩ := h
    have hlen : (fitB S.reverse).length = p := by rw [fitB_len, zsum_rev, Tops.zsum hS]
    have hlow : ∀ k, k < p → R.getD k 0 = (fitB S.reverse).getD k 0 := fun k hk => by
      rw [hR k (by omega), fitB_snoc, List.getD_eq_getElem?_getD, List.getElem?_append_left (by omega), ← List.getD_eq_getElem?_getD]
    have hhigh : ∀ k, p ≤ k → k < p + b.z → R.getD k 0 = bval b := fun k h1 h2 => by
      rw [hR k h2, fitB_snoc, List.getD_eq_getElem?_getD, List.getElem?_append_right (by omega), hlen, List.getElem?_replicate, if_pos (by omega)]; rfl
    have ih := Tops.beg hS hlow
    have step : ∀ d, d < b.z → rbeg R (p + (d + 1)) = rbeg R p ++ [(p : Int)] := by
      intro d
      induction d with
      | zero =>
        intro _
        show rbeg R (p + 1) = _
        rw [rbeg, if_pos ?_]
        rcases Nat.eq_zero_or_pos p with h0 | h0
        · exact .inl h0
        · refine .inr ?_
          rw [hhigh p (Nat.le_refl _) (by omega), hlow (p - 1) (by omega)]
          cases S with
          | nil =>
            have : p = 0 := hS
            omega
          | cons a S =>
            have hda := hd a rfl
            obtain ⟨p', hp', hz', _, _, _, hS'⟩ := hS
            have hlen' : (fitB S.reverse).length = p' := by rw [fitB_len, zsum_rev, Tops.zsum hS']
            rw [fitB_snoc, List.getD_eq_getElem?_getD, List.getElem?_append_right (by omega), hlen', List.getElem?_replicate, if_pos (by omega)]
            show bval b ≠ bval a
            intro e
            rw [e] at hda
            exact Rat.lt_irrefl hda
      | succ d ihd =>
        intro hdz
        show rbeg R (p + (d + 1) + 1) = _
        rw [rbeg, ihd (by omega), if_neg ?_, List.append_nil]
        rintro (h | h)
        · omega
        · exact h (by rw [hhigh _ (by omega) (by omega), hhigh _ (by omega) (by omega)])
    have := step (b.z - 1) (by omega)
    rw [show p + (b.z - 1 + 1) = p + b.z from by omega] at this
    rw [this, ih, sts, Tops.zsum hS]
theorem begL_rbeg (V W : List Int) : begL V W = rbegL V W := by
  unfold begL rbegL
  by_cases h : chk V W = 0
  · rw [if_pos h, if_pos h]
    obtain ⟨_, _, hok⟩ := chk_zero h
    have ht := tops_blkR hok
    rw [← fitL_rfit, (fitL_ok h).1]
    rw [Tops.beg (R := fitL V W) ht (fun k _ => by unfold fitL blkL; rw [if_pos h])]
    exact sts_stB _
  · rw [if_neg h, if_neg h]
end
section
variable {P : Program} {Q : Exit → Act → World → Prop} {w0 : Ctx} {σ : List Res} {φ : List (Bool × VP)} {fr : Fr} {c : Code}
theorem JC_noneViews (k : JC P c Q w0 σ ((true, vCells none (u32s (fnum none))) :: (true, vCells none (u32s (fden none))) :: φ) fr) : JC P c Q w0 σ φ fr :=
  JC_addView (fun _ _ => nilv) (JC_addView (fun _ _ => nilv) k)
end
end Go.Fw
