/- Chapter 40: the lists that the laws make; elements of lists in memory. -/
import Derived.Test.YtgfldmhpindbpaaDoorIsoE
import Derived.Test.YtgfldmhpindbpaaDoorFwP
namespace Go.Fw
open Go Go.RowKit Go.Nat9

section
variable {P : Program} {Q : Exit → Act → World → Prop} {w0 : Ctx} {σ : List Res} {φ : List (Bool × VP)} {fr : Fr} {c : Code}
theorem JC_fesGet {f : Bool} {l : List Fe} (x : Fe) (h : (f, vFes l) ∈ φ) (hx : x ∈ l)
    (k : JC P c Q w0 σ ((f, vCells x.ad (u32s (fnum (some x.q)))) :: (f, vCells x.be (u32s (fden (some x.q)))) :: φ) fr) : JC P c Q w0 σ φ fr := by
  refine JC_addView (p := vCells x.be (u32s (fden (some x.q)))) (f := f) (fun w s => (s.views _ h x hx).2) ?_
  refine JC_addView (p := vCells x.ad (u32s (fnum (some x.q)))) (f := f) (fun w s => ?_) k
  exact (s.views (f, vFes l) (List.mem_cons_of_mem _ h) x hx).1
end
def zf : Nat → Int := fun _ => 0
theorem fillZ (f : Nat → Int) (n : Nat) : fillL f zf n 0 = List.replicate n 0 := fillL_zero f n
theorem fitL_len {V W : List Int} (h : chk V W = 0) : (fitL V W).length = V.length := (fitL_ok h).1
theorem fes_flen {V W : List Int} {l : List Fe} (h : chk V W = 0) (hl : l.map (·.q) = fitL V W) : l.length = V.length := by
  have := congrArg List.length hl
  rw [List.length_map, fitL_len h] at this
  exact this
theorem fes_fqs {V W : List Int} {l : List Fe} (hl : l.map (·.q) = fitL V W) (j : Nat) : qs (l.getD j dF).q 3 := fes_qs (hl.trans (fitL_rfit V W)) j
theorem fes_fq {V W : List Int} {l : List Fe} (hl : l.map (·.q) = fitL V W) (j : Nat) : (l.getD j dF).q = (fitL V W).getD j 0 := by rw [← map_getD, hl]
theorem ofq_one (n : Int) : ofq n 1 = (n : Rat) := by rw [ofq_eq]; show (n : Rat) / 1 = _; grind
theorem qs_int {n : Int} (h : n.natAbs < 1000000000 ^ 3) : qs (ofq n 1) 3 := qs_ofq n 1 h (by decide)
section
variable {V W : List Int}
/-! ## Turned round -/
def turnX (V : List Int) (k : Nat) : Int := - V.getD (V.length - 1 - k) 0
def turnY (V W : List Int) (k : Nat) : Int := W.getD (V.length - 1 - k) 0
def turnXL (V : List Int) : List Int := (List.range V.length).map (turnX V)
def turnYL (V W : List Int) : List Int := (List.range V.length).map (turnY V W)
theorem turnXL_len (V : List Int) : (turnXL V).length = V.length := mr_len _ _
theorem turnYL_len (V W : List Int) : (turnYL V W).length = V.length := mr_len _ _
theorem turn_chk (h : chk V W = 0) : chk (turnXL V) (turnYL V W) = 0 := by
  obtain ⟨hn, _, hok⟩ := chk_zero h
  refine chk_ok (by rw [turnXL_len]; exact hn) (by rw [turnXL_len, turnYL_len]) fun i hi => ?_
  rw [turnXL_len] at hi
  obtain ⟨h1, h2, h3, h4⟩ := hok (V.length - 1 - i) (by omega)
  unfold okAt turnXL turnYL
  rw [mr_get _ _ hi, mr_get _ _ hi]
  unfold turnX turnY
  exact ⟨by omega, by omega, h3, h4⟩
theorem turn_fit (h : chk V W = 0) {j : Nat} (hj : j < V.length) : (fitL (turnXL V) (turnYL V W)).getD (V.length - 1 - j) 0 = -(fitL V W).getD j 0 := by
  have h1 := isFit_turn (X := turnXL V) (Y := turnYL V W) (fun i hi => mr_get _ _ hi) (fun i hi => mr_get _ _ hi) (fit_is h hj)
  refine fit_eq (turn_chk h) (by rw [turnXL_len]; omega) ?_
  rw [turnXL_len]; exact h1
/-! ## Moved -/
def clp (lo hi n : Int) : Int := if lo < (if hi < n then hi else n) then (if hi < n then hi else n) else lo
theorem clp_in {lo hi : Int} (n : Int) (h : lo ≤ hi) : lo ≤ clp lo hi n ∧ clp lo hi n ≤ hi := by unfold clp; split <;> split <;> omega
def mvX (V : List Int) (k : Nat) : Int := clp (-90000) 90000 (V.getD k 0)
def mvY (V : List Int) (c d : Int) (k : Nat) : Int := c * mvX V k + d
def mvXL (V : List Int) : List Int := (List.range V.length).map (mvX V)
def mvYL (V : List Int) (c d : Int) : List Int := (List.range V.length).map (mvY V c d)
theorem mvXL_len (V : List Int) : (mvXL V).length = V.length := mr_len _ _
theorem mvYL_len (V : List Int) (c d : Int) : (mvYL V c d).length = V.length := mr_len _ _
theorem mvX_in (V : List Int) (k : Nat) : -90000 ≤ mvX V k ∧ mvX V k ≤ 90000 := clp_in _ (by decide)
theorem mvY_in (V : List Int) {c : Int} (hc : 0 ≤ c) (hc2 : c ≤ 9) (k : Nat) : -810000 ≤ c * mvX V k ∧ c * mvX V k ≤ 810000 := by
  have := mvX_in V k
  have := mul_in (A := 90000) (B := 9) this.1 this.2 hc hc2 (by decide)
  rw [Int.mul_comm]; omega
theorem mvX_chk (h : chk V W = 0) : chk (mvXL V) W = 0 := by
  obtain ⟨hn, hv, hok⟩ := chk_zero h
  refine chk_ok (by rw [mvXL_len]; exact hn) (by rw [mvXL_len]; exact hv) fun i hi => ?_
  rw [mvXL_len] at hi
  obtain ⟨h1, h2, h3, h4⟩ := hok i hi
  have := mvX_in V i
  unfold okAt mvXL
  rw [mr_get _ _ hi]
  exact ⟨by omega, by omega, h3, h4⟩
theorem mvY_chk (h : chk V W = 0) {c d : Int} (hc : 0 ≤ c) (hc2 : c ≤ 9) (hd : -1000 ≤ d) (hd2 : d ≤ 1000) : chk (mvYL V c d) W = 0 := by
  obtain ⟨hn, hv, hok⟩ := chk_zero h
  refine chk_ok (by rw [mvYL_len]; exact hn) (by rw [mvYL_len]; exact hv) fun i hi => ?_
  rw [mvYL_len] at hi
  obtain ⟨h1, h2, h3, h4⟩ := hok i hi
  have := mvY_in V hc hc2 i
  unfold okAt mvYL
  rw [mr_get _ _ hi]
  unfold mvY
  exact ⟨by omega, by omega, h3, h4⟩
theorem mv_fit (h : chk V W = 0) {c d : Int} (hc : 0 ≤ c) (hc2 : c ≤ 9) (hd : -1000 ≤ d) (hd2 : d ≤ 1000) {j : Nat} (hj : j < V.length) :
    (fitL (mvYL V c d) W).getD j 0 = (fitL (mvXL V) W).getD j 0 * ofq c 1 + ofq d 1 := by
  rw [ofq_one, ofq_one]
  have h1 := fit_is (mvX_chk h) (k := j) (by rw [mvXL_len]; exact hj)
  rw [mvXL_len] at h1
  have h2 := isFit_move (X := mvYL V c d) (c := c) (d := d) hc (fun i hi => by unfold mvYL mvXL; rw [mr_get _ _ hi, mr_get _ _ hi]; rfl) h1
  refine fit_eq (mvY_chk h hc hc2 hd hd2) (by rw [mvYL_len]; exact hj) ?_
  rw [mvYL_len]; exact h2
theorem mod_neg {a b : Int} (hb : 0 < b) (h : a.tmod b < 0) : a.tmod b + b = a % b := by
  rw [Int.tmod_eq_emod] at h ⊢
  have h0 := Int.emod_nonneg a (Int.ne_of_gt hb)
  split at h
  · omega
  · rename_i h1
    rw [if_neg h1]
    have : (b.natAbs : Int) = b := by omega
    rw [this]; omega
theorem mod_pos {a b : Int} (hb : 0 < b) (h : ¬ a.tmod b < 0) : a.tmod b = a % b := by
  rw [Int.tmod_eq_emod] at h ⊢
  have h0 := Int.emod_nonneg a (Int.ne_of_gt hb)
  have h2 := Int.emod_lt_of_pos a hb
  split
  · omega
  · rename_i h1
    rw [if_neg h1] at h
    have : (b.natAbs : Int) = b := by omega
    rw [this] at h; omega
theorem tmod_in {a b : Int} (hb : 0 < b) : -b ≤ a.tmod b ∧ a.tmod b < b := by
  have h2 := Int.emod_lt_of_pos a hb
  have h0 := Int.emod_nonneg a (Int.ne_of_gt hb)
  rcases Int.lt_or_le (a.tmod b) 0 with h | h
  · have := mod_neg hb h; omega
  · have := mod_pos (a := a) hb (by omega); omega
/-! ## The running least -/
def own0 (V : List Int) : Nat → Int := fun k => V.getD k 0
def rmL (V : List Int) : List Int := (List.range V.length).map (rmin V)
theorem rmL_len (V : List Int) : (rmL V).length = V.length := mr_len _ _
theorem rmin_in {n : Nat} (h : ∀ i, i < n → -1000000 ≤ V.getD i 0 ∧ V.getD i 0 ≤ 1000000) : ∀ {k : Nat}, k < n → -1000000 ≤ rmin V k ∧ rmin V k ≤ 1000000
  | 0, hk => h 0 hk
  | k + 1, hk => by
    have h1 := h (k + 1) hk
    have h2 := rmin_in h (k := k) (by omega)
    rw [rmin]; omega
theorem rm_chk (h : chk V W = 0) : chk (rmL V) W = 0 := by
  obtain ⟨hn, hv, hok⟩ := chk_zero h
  refine chk_ok (by rw [rmL_len]; exact hn) (by rw [rmL_len]; exact hv) fun i hi => ?_
  rw [rmL_len] at hi
  obtain ⟨_, _, h3, h4⟩ := hok i hi
  have := rmin_in (V := V) (n := V.length) (fun i hi => by obtain ⟨a, b, _, _⟩ := hok i hi; exact ⟨a, b⟩) hi
  unfold okAt rmL
  rw [mr_get _ _ hi]
  exact ⟨by omega, by omega, h3, h4⟩
theorem rm_fit (h : chk V W = 0) {j : Nat} (hj : j < V.length) : (fitL (rmL V) W).getD j 0 = ofq (rmin V j) 1 := by
  obtain ⟨_, _, hok⟩ := chk_zero h
  rw [ofq_one]
  have e : (rmL V).getD j 0 = rmin V j := mr_get _ _ hj
  have h1 := isFit_falling (n := V.length) (W := W) (U := rmL V) (fun i hi => by have := (hok i hi).2.2.1; omega) (fun i k h1 h2 => by
    unfold rmL
    rw [mr_get _ _ h2, mr_get _ _ (by omega)]
    obtain ⟨d, rfl⟩ := Nat.exists_eq_add_of_le h1
    exact rmin_anti V) hj
  rw [e] at h1
  refine fit_eq (rm_chk h) (by rw [rmL_len]; exact hj) ?_
  rw [rmL_len]; exact h1
theorem own0_start (V : List Int) : fillL (rmin V) (own0 V) V.length 0 = V := fillL_start (rmin V) V
theorem rmL_first (V : List Int) {i : Nat} (h : i = 0) : fillL (rmin V) (own0 V) V.length i = fillL (rmin V) (own0 V) V.length (i + 1) := by
  subst h
  unfold fillL
  refine mr_congr fun k _ => ?_
  rw [if_neg (Nat.not_lt_zero k)]
  split
  · rename_i h; rw [show k = 0 from by omega]; rfl
  · rfl
theorem rmL_step (V : List Int) {i : Nat} (h : 0 < i) : (fillL (rmin V) (own0 V) V.length i).set i (if rmin V (i - 1) < V.getD i 0 then rmin V (i - 1) else V.getD i 0) = fillL (rmin V) (own0 V) V.length (i + 1) := by
  rw [← fillL_set]
  congr 1
  obtain ⟨k, rfl⟩ : ∃ k, i = k + 1 := ⟨i - 1, by omega⟩
  rw [rmin, Nat.add_sub_cancel]
  split <;> omega
/-! ## The blocks' beginnings -/
theorem begL_len (h : chk V W = 0) : (begL V W).length = (blkL V W).length := by rw [begL_bg h, mr_len]
theorem begL_get (h : chk V W = 0) {t : Nat} (ht : t < (blkL V W).length) : (begL V W).getD t 0 = ((bg V W t : Nat) : Int) := by rw [begL_bg h, mr_get _ _ ht]
theorem blkL_le (h : chk V W = 0) : (blkL V W).length ≤ V.length := by
  have := (bnd_blkL h).len
  rw [blkL, List.length_reverse]; exact this
theorem blkL_nil (h : chk V W = 0) : (blkL V W).length = 0 ↔ V.length = 0 := by
  have h1 := bg_end h
  constructor
  · intro h0; rw [h0] at h1; exact h1.symm
  · intro h0
    have := blkL_le h
    omega
theorem begL_asc (h : chk V W = 0) : (∀ k, k < (begL V W).length → 0 ≤ (begL V W).getD k 0 ∧ (begL V W).getD k 0 ≤ (V.length : Int) - 1) ∧ ∀ k, 0 < k → k < (begL V W).length → (begL V W).getD (k - 1) 0 < (begL V W).getD k 0 := by
  have hl := begL_len h
  refine ⟨fun k hk => ?_, fun k h0 hk => ?_⟩
  · rw [begL_get h (by omega)]
    have h1 := (block_at h (t := k) (by omega)).lt
    have h2 := (block_at h (t := k) (by omega)).le
    omega
  · rw [begL_get h (by omega), begL_get h (by omega)]
    have := bg_mono h (s := k - 1) (t := k) (by omega) (by omega)
    omega
/-! ## A place parted -/
def partX (V : List Int) (k : Nat) : List Int := V.take k ++ [V.getD k 0] ++ V.drop k
def partY (W : List Int) (k : Nat) : List Int := W.take k ++ [(W.getD k 0).tdiv 2, W.getD k 0 - (W.getD k 0).tdiv 2] ++ W.drop (k + 1)
theorem partX_len (V : List Int) {k : Nat} (hk : k < V.length) : (partX V k).length = V.length + 1 := by unfold partX; simp; omega
theorem partY_len (W : List Int) {k : Nat} (hk : k < W.length) : (partY W k).length = W.length + 1 := by unfold partY; simp; omega
theorem partX_get (V : List Int) {k i : Nat} (hk : k < V.length) : (partX V k).getD i 0 = V.getD (if i ≤ k then i else i - 1) 0 := by
  unfold partX
  rw [List.getD_eq_getElem?_getD]
  rcases Nat.lt_or_ge i k with h | h
  · rw [if_pos (by omega), List.append_assoc, List.getElem?_append_left (by simp; omega), List.getElem?_take, if_pos h, ← List.getD_eq_getElem?_getD]
  · rcases Nat.eq_or_lt_of_le h with h | h
    · subst h
      rw [if_pos (Nat.le_refl _), List.append_assoc, List.getElem?_append_right (by rw [List.length_take]; omega), List.length_take, Nat.min_eq_left (by omega), Nat.sub_self]
      rfl
    · rw [if_neg (by omega), List.getElem?_append_right (by simp; omega), List.getElem?_drop, List.getD_eq_getElem?_getD]
      congr 2
      simp; omega
theorem partY_get (W : List Int) {k i : Nat} (hk : k < W.length) : (partY W k).getD i 0 = if i < k then W.getD i 0 else if i = k then (W.getD k 0).tdiv 2 else if i = k + 1 then W.getD k 0 - (W.getD k 0).tdiv 2 else W.getD (i - 1) 0 := by
  unfold partY
  rw [List.getD_eq_getElem?_getD]
  rcases Nat.lt_or_ge i k with h | h
  · rw [if_pos h, List.append_assoc, List.getElem?_append_left (by simp; omega), List.getElem?_take, if_pos h, ← List.getD_eq_getElem?_getD]
  · rw [if_neg (by omega)]
    rcases Nat.eq_or_lt_of_le h with h | h
    · subst h
      rw [if_pos rfl, List.append_assoc, List.getElem?_append_right (by rw [List.length_take]; omega), List.length_take, Nat.min_eq_left (by omega), Nat.sub_self]
      rfl
    · rw [if_neg (by omega)]
      rcases Nat.eq_or_lt_of_le h with h | h
      · subst h
        rw [if_pos rfl, List.append_assoc, List.getElem?_append_right (by rw [List.length_take]; omega), List.length_take, Nat.min_eq_left (by omega), show k.succ - k = 1 from by omega]
        rfl
      · rw [if_neg (by omega), List.getElem?_append_right (by simp; omega), List.getElem?_drop, List.getD_eq_getElem?_getD]
        congr 2
        simp; omega
theorem half_in {a : Int} (h : 2 ≤ a) (h2 : a ≤ 1000) : 1 ≤ a.tdiv 2 ∧ 1 ≤ a - a.tdiv 2 ∧ a.tdiv 2 ≤ 1000 ∧ a - a.tdiv 2 ≤ 1000 := by
  rw [Int.tdiv_eq_ediv_of_nonneg (by omega)]
  omega
theorem part_chk (h : chk V W = 0) {k : Nat} (hk : k < V.length) (h2 : 2 ≤ W.getD k 0) (h23 : V.length ≤ 23) : chk (partX V k) (partY W k) = 0 := by
  obtain ⟨hn, hv, hok⟩ := chk_zero h
  have hkw : k < W.length := by omega
  obtain ⟨a1, a2, a3, a4⟩ := half_in h2 (hok k hk).2.2.2
  refine chk_ok (by rw [partX_len V hk]; omega) (by rw [partX_len V hk, partY_len W hkw]; omega) fun i hi => ?_
  rw [partX_len V hk] at hi
  have h0 := hok (if i ≤ k then i else i - 1) (by split <;> omega)
  unfold okAt
  rw [partX_get V hk, partY_get W hkw]
  refine ⟨h0.1, h0.2.1, ?_, ?_⟩
  · split
    · exact (hok i (by omega)).2.2.1
    · split
      · omega
      · split
        · omega
        · exact (hok (i - 1) (by omega)).2.2.1
  · split
    · exact (hok i (by omega)).2.2.2
    · split
      · omega
      · split
        · omega
        · exact (hok (i - 1) (by omega)).2.2.2
theorem part_fit (h : chk V W = 0) {k : Nat} (hk : k < V.length) (h2 : 2 ≤ W.getD k 0) (h23 : V.length ≤ 23) {i : Nat} (hi : i < V.length + 1) : (fitL (partX V k) (partY W k)).getD i 0 = (fitL V W).getD (if i ≤ k then i else i - 1) 0 := by
  obtain ⟨hn, hv, hok⟩ := chk_zero h
  have hkw : k < W.length := by omega
  obtain ⟨a1, a2, _, _⟩ := half_in h2 (hok k hk).2.2.2
  have h1 := isFit_part (n := V.length) (V := V) (W := W) (X := partX V k) (Y := partY W k) (k := k) (a := (W.getD k 0).tdiv 2) (b := W.getD k 0 - (W.getD k 0).tdiv 2) (fun i _ => partX_get V hk) (fun i _ => partY_get W hkw) (by omega) (by omega) (by omega) hk (i := i)
    (fit_is h (k := if i ≤ k then i else i - 1) (by split <;> omega))
  refine fit_eq (part_chk h hk h2 h23) (by rw [partX_len V hk]; exact hi) ?_
  rw [partX_len V hk]; exact h1
end
end Go.Fw
