/- Chapter 40: laws of the fit, in plain numbers: turned round, moved, with a place parted, of falling lists; its weighted sum. No program. -/
import Derived.Test.YtgfldmhpindbpaaDoorIsoC
namespace Go.Fw
open Go Go.RowKit Go.Nat9

theorem fit_eq {V W : List Int} (h : chk V W = 0) {k : Nat} (hk : k < V.length) {v : Rat} (hv : IsFit V W V.length k v) : (fitL V W).getD k 0 = v :=
  isFit_unique (chk_zero h).2.2 ((fitL_ok h).2 k hk) hv
theorem fit_is {V W : List Int} (h : chk V W = 0) {k : Nat} (hk : k < V.length) : IsFit V W V.length k ((fitL V W).getD k 0) := (fitL_ok h).2 k hk

/-! ## Lists that are filled place by place -/
theorem mr_getD {α : Type} (f : Nat → α) (n i : Nat) (x : α) : ((List.range n).map f).getD i x = if i < n then f i else x := by
  rw [List.getD_eq_getElem?_getD, List.getElem?_map]
  split
  · rename_i h; rw [List.getElem?_range h]; rfl
  · rename_i h; rw [List.getElem?_eq_none (by simpa using h)]; rfl
theorem mr_get {α : Type} (f : Nat → α) {n i : Nat} (x : α) (h : i < n) : ((List.range n).map f).getD i x = f i := by rw [mr_getD, if_pos h]
theorem mr_len {α : Type} (f : Nat → α) (n : Nat) : ((List.range n).map f).length = n := by simp
theorem mr_set {α : Type} (f : Nat → α) (n i : Nat) (x : α) : ((List.range n).map f).set i x = (List.range n).map (fun k => if k = i then x else f k) := by
  refine List.ext_getElem? fun k => ?_
  rw [List.getElem?_set, List.getElem?_map, List.getElem?_map]
  simp only [List.length_map, List.length_range]
  rcases Nat.lt_or_ge k n with hk | hk
  · rw [List.getElem?_range hk]
    by_cases h : i = k
    · subst h; simp [hk]
    · simp [h, Ne.symm h]
  · rw [List.getElem?_eq_none (by simpa using hk)]
    by_cases h : i = k
    · subst h; simp [Nat.not_lt.2 hk]
    · simp [h]
theorem mr_congr {α : Type} {f g : Nat → α} {n : Nat} (h : ∀ k, k < n → f k = g k) : (List.range n).map f = (List.range n).map g :=
  List.map_congr_left fun k hk => h k (List.mem_range.1 hk)
theorem mr_self {α : Type} (l : List α) (x : α) : (List.range l.length).map (fun k => l.getD k x) = l := by
  refine List.ext_getElem? fun k => ?_
  rw [List.getElem?_map]
  rcases Nat.lt_or_ge k l.length with hk | hk
  · rw [List.getElem?_range hk, List.getElem?_eq_getElem hk, Option.map_some, List.getD_eq_getElem?_getD, List.getElem?_eq_getElem hk]; rfl
  · rw [List.getElem?_eq_none (by simpa using hk), List.getElem?_eq_none hk]; rfl
/-- n places, of which the first i are filled -/
def fillL (f g : Nat → Int) (n i : Nat) : List Int := (List.range n).map fun k => if k < i then f k else g k
theorem fillL_len (f g : Nat → Int) (n i : Nat) : (fillL f g n i).length = n := mr_len _ _
theorem fillL_zero (f : Nat → Int) (n : Nat) : fillL f (fun _ => 0) n 0 = List.replicate n 0 := by
  unfold fillL
  rw [mr_congr (g := fun _ => (0 : Int)) fun _ _ => if_neg (Nat.not_lt_zero _)]
  rw [List.map_const', List.length_range]
theorem fillL_start (f : Nat → Int) (V : List Int) : fillL f (fun k => V.getD k 0) V.length 0 = V := by
  unfold fillL
  rw [mr_congr (g := fun k => V.getD k 0) fun _ _ => if_neg (Nat.not_lt_zero _)]
  exact mr_self V 0
theorem fillL_set (f g : Nat → Int) (n i : Nat) : (fillL f g n i).set i (f i) = fillL f g n (i + 1) := by
  unfold fillL
  rw [mr_set]
  refine mr_congr fun k _ => ?_
  by_cases h : k = i
  · subst h; rw [if_pos rfl, if_pos (by omega)]
  · rw [if_neg h]
    by_cases h2 : k < i
    · rw [if_pos h2, if_pos (by omega)]
    · rw [if_neg h2, if_neg (by omega)]
theorem fillL_full (f g : Nat → Int) (n : Nat) : fillL f g n n = (List.range n).map f := mr_congr fun _ hk => if_pos hk
theorem fillL_lo {f g : Nat → Int} {n i k : Nat} (h : k < i) (hn : k < n) : (fillL f g n i).getD k 0 = f k := by unfold fillL; rw [mr_get _ _ hn, if_pos h]
theorem fillL_hi {f g : Nat → Int} {n i k : Nat} (h : i ≤ k) (hn : k < n) : (fillL f g n i).getD k 0 = g k := by unfold fillL; rw [mr_get _ _ hn, if_neg (by omega)]

section
variable {V W X Y : List Int} {n : Nat}
theorem isFit_of {X Y : List Int} {m : Nat} {u : Rat} {k p q : Nat} (h1 : p ≤ k) (h2 : k < q) (h3 : q ≤ m) (hp : ∀ j, j ≤ m → FF X Y u j ≤ FF X Y u p) (hq : FF X Y u p ≤ FF X Y u q) : IsFit X Y m k u :=
  ⟨p, q, h1, h2, h3, hp, fun j hj => Rat.le_trans (hp j hj) hq⟩
/-! ## Turned round -/
theorem ps_turn (hX : ∀ i, i < n → X.getD i 0 = - V.getD (n - 1 - i) 0) (hY : ∀ i, i < n → Y.getD i 0 = W.getD (n - 1 - i) 0) : ∀ {j : Nat}, j ≤ n → ps X Y j = ps V W (n - j) - ps V W n ∧ pw Y j = pw W n - pw W (n - j)
  | 0, _ => by
    constructor
    · show (0 : Int) = _; rw [Nat.sub_zero]; omega
    · show (0 : Int) = _; rw [Nat.sub_zero]; omega
  | j + 1, hj => by
    obtain ⟨h1, h2⟩ := ps_turn hX hY (j := j) (by omega)
    have e : n - j = (n - 1 - j) + 1 := by omega
    have e2 : n - (j + 1) = n - 1 - j := by omega
    rw [e, ps] at h1
    rw [e, pw] at h2
    rw [ps, pw, h1, h2, hX j (by omega), hY j (by omega), e2, Int.neg_mul]
    omega
theorem FF_turn (hX : ∀ i, i < n → X.getD i 0 = - V.getD (n - 1 - i) 0) (hY : ∀ i, i < n → Y.getD i 0 = W.getD (n - 1 - i) 0) (v : Rat) {j : Nat} (hj : j ≤ n) : FF X Y (-v) j = FF V W v (n - j) - FF V W v n := by
  obtain ⟨h1, h2⟩ := ps_turn hX hY hj
  unfold FF
  rw [h1, h2, Rat.intCast_sub, Rat.intCast_sub]
  grind
theorem isFit_turn (hX : ∀ i, i < n → X.getD i 0 = - V.getD (n - 1 - i) 0) (hY : ∀ i, i < n → Y.getD i 0 = W.getD (n - 1 - i) 0) {k : Nat} {v : Rat} (h : IsFit V W n k v) : IsFit X Y n (n - 1 - k) (-v) := by
  obtain ⟨p, q, h1, h2, h3, h4, h5⟩ := h
  refine ⟨n - q, n - p, by omega, by omega, by omega, fun j hj => ?_, fun j hj => ?_⟩
  · rw [FF_turn hX hY v hj, FF_turn hX hY v (by omega), show n - (n - q) = q from by omega]
    have := h5 (n - j) (by omega)
    grind
  · rw [FF_turn hX hY v hj, FF_turn hX hY v (by omega), show n - (n - p) = p from by omega]
    have := h4 (n - j) (by omega)
    grind
/-! ## Moved -/
theorem ps_move {c d : Int} (hX : ∀ i, i < n → X.getD i 0 = c * V.getD i 0 + d) : ∀ {j : Nat}, j ≤ n → ps X W j = c * ps V W j + d * pw W j
  | 0, _ => by show (0 : Int) = c * 0 + d * 0; omega
  | j + 1, hj => by
    have h1 := ps_move hX (j := j) (by omega)
    rw [ps, ps, pw, h1, hX j (by omega), Int.add_mul, Int.mul_add, Int.mul_add, Int.mul_assoc]
    omega
theorem isFit_move {c d : Int} (hc : 0 ≤ c) (hX : ∀ i, i < n → X.getD i 0 = c * V.getD i 0 + d) {k : Nat} {v : Rat} (h : IsFit V W n k v) : IsFit X W n k (v * (c : Rat) + (d : Rat)) := by
  have hc' : (0 : Rat) ≤ (c : Rat) := Rat.intCast_le_intCast.2 hc
  have key : ∀ j, j ≤ n → FF X W (v * (c : Rat) + (d : Rat)) j = (c : Rat) * FF V W v j := by
    intro j hj
    unfold FF
    rw [ps_move hX hj, Rat.intCast_add, Rat.intCast_mul, Rat.intCast_mul]
    grind
  have mul : ∀ {a b : Rat}, a ≤ b → (c : Rat) * a ≤ (c : Rat) * b := fun hab => Rat.mul_le_mul_of_nonneg_left hab hc'
  obtain ⟨p, q, h1, h2, h3, h4, h5⟩ := h
  refine ⟨p, q, h1, h2, h3, fun j hj => ?_, fun j hj => ?_⟩
  · rw [key j hj, key p (by omega)]; exact mul (h4 j hj)
  · rw [key j hj, key q (by omega)]; exact mul (h5 j hj)
/-! ## A place parted -/
theorem ps_part {k : Nat} {a b : Int} (hX : ∀ i, i ≤ n → X.getD i 0 = V.getD (if i ≤ k then i else i - 1) 0) (hY : ∀ i, i ≤ n → Y.getD i 0 = if i < k then W.getD i 0 else if i = k then a else if i = k + 1 then b else W.getD (i - 1) 0)
    (hab : a + b = W.getD k 0) (hk : k < n) : (∀ {j : Nat}, j ≤ k → ps X Y j = ps V W j ∧ pw Y j = pw W j) ∧ (ps X Y (k + 1) = ps V W k + V.getD k 0 * a ∧ pw Y (k + 1) = pw W k + a) ∧ ∀ {d : Nat}, k + 1 + d ≤ n → ps X Y (k + 2 + d) = ps V W (k + 1 + d) ∧ pw Y (k + 2 + d) = pw W (k + 1 + d) := by
  have A : ∀ {j : Nat}, j ≤ k → ps X Y j = ps V W j ∧ pw Y j = pw W j := by
    intro j
    induction j with
    | zero => intro _; exact ⟨rfl, rfl⟩
    | succ j ih =>
      intro hj
      obtain ⟨h1, h2⟩ := ih (by omega)
      rw [ps, ps, pw, pw, h1, h2, hX j (by omega), hY j (by omega), if_pos (by omega), if_pos (by omega)]
      exact ⟨rfl, rfl⟩
  have B : ps X Y (k + 1) = ps V W k + V.getD k 0 * a ∧ pw Y (k + 1) = pw W k + a := by
    obtain ⟨h1, h2⟩ := A (Nat.le_refl k)
    rw [ps, pw, h1, h2, hX k (by omega), hY k (by omega), if_pos (Nat.le_refl k), if_neg (by omega), if_pos rfl]
    exact ⟨rfl, rfl⟩
  refine ⟨A, B, ?_⟩
  intro d
  induction d with
  | zero =>
    intro hd
    obtain ⟨h1, h2⟩ := B
    show ps X Y (k + 1 + 1) = ps V W (k + 1) ∧ pw Y (k + 1 + 1) = pw W (k + 1)
    rw [ps, pw, h1, h2, hX (k + 1) (by omega), hY (k + 1) (by omega), if_neg (by omega), if_neg (by omega), if_neg (by omega), if_pos rfl, Nat.add_sub_cancel, ps, pw, ← hab, Int.mul_add]
    exact ⟨by omega, by omega⟩
  | succ d ih =>
    intro hd
    obtain ⟨h1, h2⟩ := ih (by omega)
    show ps X Y (k + 2 + d + 1) = ps V W (k + 1 + d + 1) ∧ pw Y (k + 2 + d + 1) = pw W (k + 1 + d + 1)
    rw [ps, pw, h1, h2, hX (k + 2 + d) (by omega), hY (k + 2 + d) (by omega), if_neg (by omega), if_neg (by omega), if_neg (by omega), if_neg (by omega), show k + 2 + d - 1 = k + 1 + d from by omega, ps, pw]
    exact ⟨rfl, rfl⟩
theorem isFit_part {k : Nat} {a b : Int} (hX : ∀ i, i ≤ n → X.getD i 0 = V.getD (if i ≤ k then i else i - 1) 0) (hY : ∀ i, i ≤ n → Y.getD i 0 = if i < k then W.getD i 0 else if i = k then a else if i = k + 1 then b else W.getD (i - 1) 0)
    (hab : a + b = W.getD k 0) (ha : 0 ≤ a) (hb : 0 ≤ b) (hk : k < n) {i : Nat} {v : Rat} (h : IsFit V W n (if i ≤ k then i else i - 1) v) : IsFit X Y (n + 1) i v := by
  obtain ⟨A, ⟨B1, B2⟩, C⟩ := ps_part hX hY hab hk
  have ha' : (0 : Rat) ≤ (a : Rat) := Rat.intCast_le_intCast.2 ha
  have hb' : (0 : Rat) ≤ (b : Rat) := Rat.intCast_le_intCast.2 hb
  have FA : ∀ {j : Nat}, j ≤ k → FF X Y v j = FF V W v j := fun hj => by obtain ⟨e1, e2⟩ := A hj; unfold FF; rw [e1, e2]
  have FC : ∀ {j : Nat}, k + 1 ≤ j → j ≤ n → FF X Y v (j + 1) = FF V W v j := fun {j} h1 h2 => by
    obtain ⟨d, rfl⟩ := Nat.exists_eq_add_of_le h1
    obtain ⟨e1, e2⟩ := C (d := d) h2
    unfold FF
    rw [show k + 1 + d + 1 = k + 2 + d from by omega, e1, e2]
  have FB : FF X Y v (k + 1) ≤ FF V W v k ∨ FF X Y v (k + 1) ≤ FF V W v (k + 1) := by
    have e1 : FF X Y v (k + 1) = FF V W v k + ((V.getD k 0 : Int) - v) * (a : Rat) := by
      unfold FF; rw [B1, B2, Rat.intCast_add, Rat.intCast_add, Rat.intCast_mul]; grind
    have e2 : FF V W v (k + 1) = FF V W v k + ((V.getD k 0 : Int) - v) * ((a : Rat) + (b : Rat)) := by
      unfold FF; rw [ps, pw, ← hab, Rat.intCast_add, Rat.intCast_add, Rat.intCast_mul, Rat.intCast_add]; grind
    by_cases hv : ((V.getD k 0 : Int) : Rat) ≤ v
    · refine .inl ?_
      have := Rat.mul_nonneg (show 0 ≤ v - ((V.getD k 0 : Int) : Rat) from by grind) ha'
      grind
    · refine .inr ?_
      have hv' := Rat.not_le.1 hv
      have := Rat.mul_nonneg (show 0 ≤ ((V.getD k 0 : Int) : Rat) - v from by grind) hb'
      grind
  obtain ⟨p, q, h1, h2, h3, h4, h5⟩ := h
  have top : ∀ {t : Nat}, t ≤ n → (∀ j, j ≤ n → FF V W v j ≤ FF V W v t) → ∀ j, j ≤ n + 1 → FF X Y v j ≤ FF V W v t := by
    intro t ht hT j hj
    rcases Nat.lt_or_ge k j with hkj | hkj
    · rcases Nat.eq_or_lt_of_le hkj with e | e
      · subst e
        rcases FB with f | f
        · exact Rat.le_trans f (hT k (by omega))
        · exact Rat.le_trans f (hT (k + 1) (by omega))
      · obtain ⟨j', rfl⟩ : ∃ m, j = m + 1 := ⟨j - 1, by omega⟩
        rw [FC (by omega) (by omega)]
        exact hT j' (by omega)
    · rw [FA hkj]; exact hT j (by omega)
  have at' : ∀ {t : Nat}, t ≤ n → FF X Y v (if t ≤ k then t else t + 1) = FF V W v t := by
    intro t ht
    split
    · rename_i h; exact FA h
    · rename_i h; exact FC (by omega) ht
  refine ⟨if p ≤ k then p else p + 1, if q ≤ k then q else q + 1, ?_, ?_, ?_, fun j hj => ?_, fun j hj => ?_⟩
  · split at h1 <;> split <;> omega
  · split at h2 <;> split <;> omega
  · split <;> omega
  · rw [at' (by omega)]; exact top (by omega) h4 j hj
  · rw [at' h3]; exact top h3 h5 j hj
/-! ## Falling lists -/
theorem FF_step (V W : List Int) (v : Rat) (j : Nat) : FF V W v (j + 1) = FF V W v j + (((V.getD j 0 : Int) : Rat) - v) * ((W.getD j 0 : Int) : Rat) := by
  unfold FF; rw [ps, pw, Rat.intCast_add, Rat.intCast_add, Rat.intCast_mul]; grind
def rmin (V : List Int) : Nat → Int
  | 0 => V.getD 0 0
  | k + 1 => min (V.getD (k + 1) 0) (rmin V k)
theorem rmin_anti (V : List Int) : ∀ {i d : Nat}, rmin V (i + d) ≤ rmin V i
  | i, 0 => Int.le_refl _
  | i, d + 1 => by
    have := rmin_anti V (i := i) (d := d)
    show rmin V (i + d + 1) ≤ _
    rw [rmin]; omega
theorem isFit_falling {U : List Int} (hW : ∀ i, i < n → 0 ≤ W.getD i 0) (hU : ∀ i j, i ≤ j → j < n → U.getD j 0 ≤ U.getD i 0) {k : Nat} (hk : k < n) : IsFit U W n k ((U.getD k 0 : Int) : Rat) := by
  have up : ∀ d, d ≤ k → FF U W ((U.getD k 0 : Int) : Rat) (k - d) ≤ FF U W ((U.getD k 0 : Int) : Rat) k := by
    intro d
    induction d with
    | zero => intro _; exact Rat.le_refl
    | succ d ih =>
      intro hd
      have h1 := ih (by omega)
      have e := FF_step U W ((U.getD k 0 : Int) : Rat) (k - (d + 1))
      rw [show k - (d + 1) + 1 = k - d from by omega] at e
      have h2 : ((U.getD k 0 : Int) : Rat) ≤ ((U.getD (k - (d + 1)) 0 : Int) : Rat) := Rat.intCast_le_intCast.2 (hU _ _ (by omega) hk)
      have h3 : (0 : Rat) ≤ ((W.getD (k - (d + 1)) 0 : Int) : Rat) := Rat.intCast_le_intCast.2 (hW _ (by omega))
      have := Rat.mul_nonneg (show 0 ≤ ((U.getD (k - (d + 1)) 0 : Int) : Rat) - ((U.getD k 0 : Int) : Rat) from by grind) h3
      grind
  have down : ∀ d, k + d ≤ n → FF U W ((U.getD k 0 : Int) : Rat) (k + d) ≤ FF U W ((U.getD k 0 : Int) : Rat) k := by
    intro d
    induction d with
    | zero => intro _; exact Rat.le_refl
    | succ d ih =>
      intro hd
      have h1 := ih (by omega)
      have e := FF_step U W ((U.getD k 0 : Int) : Rat) (k + d)
      have h2 : ((U.getD (k + d) 0 : Int) : Rat) ≤ ((U.getD k 0 : Int) : Rat) := Rat.intCast_le_intCast.2 (hU _ _ (by omega) (by omega))
      have h3 : (0 : Rat) ≤ ((W.getD (k + d) 0 : Int) : Rat) := Rat.intCast_le_intCast.2 (hW _ (by omega))
      have := Rat.mul_nonneg (show 0 ≤ ((U.getD k 0 : Int) : Rat) - ((U.getD (k + d) 0 : Int) : Rat) from by grind) h3
      show FF U W _ (k + d + 1) ≤ _
      grind
  refine isFit_of (p := k) (q := k + 1) (Nat.le_refl _) (Nat.lt_succ_self _) (by omega) (fun j hj => ?_) ?_
  · rcases Nat.le_total j k with h | h
    · have := up (k - j) (by omega); rwa [show k - (k - j) = j from by omega] at this
    · have := down (j - k) (by omega); rwa [show k + (j - k) = j from by omega] at this
  · rw [FF_step]; exact rle_of_eq (by grind)
/-! ## The weighted sum -/
def wfs (W : List Int) (F : Nat → Rat) : Nat → Rat
  | 0 => 0
  | i + 1 => wfs W F i + ((W.getD i 0 : Int) : Rat) * F i
theorem wfs_congr {F G : Nat → Rat} : ∀ {m : Nat}, (∀ k, k < m → F k = G k) → wfs W F m = wfs W G m
  | 0, _ => rfl
  | m + 1, h => by rw [wfs, wfs, wfs_congr (m := m) (fun k hk => h k (by omega)), h m (by omega)]
theorem wfs_const {F : Nat → Rat} {p : Nat} {c : Rat} : ∀ {z : Nat}, (∀ k, p ≤ k → k < p + z → F k = c) → wfs W F (p + z) = wfs W F p + c * ((pw W (p + z) : Rat) - (pw W p : Rat))
  | 0, _ => by show _ = wfs W F p + c * ((pw W p : Rat) - _); grind
  | z + 1, h => by
    show wfs W F (p + z + 1) = _ + c * ((pw W (p + z + 1) : Rat) - _)
    rw [wfs, pw, wfs_const (z := z) (fun k h1 h2 => h k h1 (by omega)), h (p + z) (by omega) (by omega), Rat.intCast_add]
    grind
theorem Stk.sum {F : Nat → Rat} : ∀ {S : List Blk} {m : Nat}, Stk V W S m → (∀ k, k < m → F k = (fitB S.reverse).getD k 0) → wfs W F m = (ps V W m : Rat) ∧ (fitB S.reverse).length = m
  | [], m, h, _ => by
    obtain rfl : m = 0 := h
    exact ⟨rfl, rfl⟩
  | b :: S, m, h, hF => by
    obtain ⟨p, rfl, hb, hS, _⟩ := h
    have hlen : (fitB S.reverse).length = p := by
      have : ∀ {S : List Blk} {m : Nat}, Stk V W S m → zsum S = m := by
        intro S
        induction S with
        | nil => intro m h; exact (show m = 0 from h).symm
        | cons a S ih => intro m h; obtain ⟨p, rfl, _, hS, _⟩ := h; rw [zsum_cons, ih hS]; omega
      rw [fitB_len, zsum_rev, this hS]
    have ih := (Stk.sum (F := F) hS fun k hk => by rw [hF k (by omega), fitB_snoc, List.getD_eq_getElem?_getD, List.getElem?_append_left (by omega), ← List.getD_eq_getElem?_getD]).1
    have hc : ∀ k, p ≤ k → k < p + b.z → F k = bval b := fun k h1 h2 => by
      rw [hF k h2, fitB_snoc, List.getD_eq_getElem?_getD, List.getElem?_append_right (by omega), hlen, List.getElem?_replicate, if_pos (by omega)]; rfl
    refine ⟨?_, by rw [fitB_snoc, List.length_append, List.length_replicate, hlen]⟩
    rw [wfs_const hc, ih]
    have h1 := bval_mul hb.pos
    rw [hb.s, hb.w, Rat.intCast_sub, Rat.intCast_sub] at h1
    grind
theorem fit_sum (h : chk V W = 0) : wfs W (fun k => (fitL V W).getD k 0) V.length = (ps V W V.length : Rat) := by
  obtain ⟨_, _, hok⟩ := chk_zero h
  refine (Stk.sum (S := blkR V W V.length) (stk_blkR hok (Nat.le_refl _)) fun k hk => ?_).1
  unfold fitL blkL
  rw [if_pos h]
end
end Go.Fw
