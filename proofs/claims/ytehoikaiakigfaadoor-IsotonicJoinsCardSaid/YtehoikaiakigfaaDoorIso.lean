/- Chapter 40: the pooled values are the least of the greatest means. Plain numbers, no program. -/
import Derived.Test.YtehoikaiakigfaaDoorFrL
import Derived.Test.YtehoikaiakigfaaDoorFwC
namespace Go.Fw
open Go Go.RowKit Go.Nat9

/-! ## Sums from the beginning -/
def ps (V W : List Int) : Nat → Int
  | 0 => 0
  | j + 1 => ps V W j + V.getD j 0 * W.getD j 0
def pw (W : List Int) : Nat → Int
  | 0 => 0
  | j + 1 => pw W j + W.getD j 0
theorem vsum_ps (V W : List Int) (i : Nat) : ∀ k, vsum V W i k = ps V W (i + k) - ps V W i
  | 0 => by rw [vsum, Nat.add_zero]; omega
  | k + 1 => by rw [vsum, vsum_ps V W i k, show i + (k + 1) = (i + k) + 1 from rfl, ps]; omega
theorem wsum_pw (W : List Int) (i : Nat) : ∀ k, wsum W i k = pw W (i + k) - pw W i
  | 0 => by rw [wsum, Nat.add_zero]; omega
  | k + 1 => by rw [wsum, wsum_pw W i k, show i + (k + 1) = (i + k) + 1 from rfl, pw]; omega
theorem rle_of_eq {a b : Rat} (h : a = b) : a ≤ b := h ▸ Rat.le_refl
variable {V W : List Int} {n : Nat}
theorem pw_le (h : okTo V W n) {i : Nat} : ∀ {k : Nat}, i + k ≤ n → pw W i + (k : Int) ≤ pw W (i + k)
  | 0, _ => by simp
  | k + 1, hk => by
    have h1 := pw_le h (i := i) (k := k) (by omega)
    obtain ⟨_, _, a3, _⟩ := h (i + k) (by omega)
    rw [show i + (k + 1) = (i + k) + 1 from rfl, pw]
    push_cast
    omega
theorem pw_mono (h : okTo V W n) {i j : Nat} (hij : i ≤ j) (hj : j ≤ n) : pw W i ≤ pw W j := by
  obtain ⟨k, rfl⟩ := Nat.exists_eq_add_of_le hij
  have := pw_le h (i := i) (k := k) hj
  omega
theorem pw_lt (h : okTo V W n) {i j : Nat} (hij : i < j) (hj : j ≤ n) : pw W i < pw W j := by
  obtain ⟨k, rfl⟩ := Nat.exists_eq_add_of_lt hij
  have := pw_le h (i := i) (k := k + 1) (by omega)
  rw [show i + (k + 1) = i + k + 1 from rfl] at this
  omega
theorem pwq_mono (h : okTo V W n) {i j : Nat} (hij : i ≤ j) (hj : j ≤ n) : (pw W i : Rat) ≤ (pw W j : Rat) := Rat.intCast_le_intCast.2 (pw_mono h hij hj)
theorem pwq_lt (h : okTo V W n) {i j : Nat} (hij : i < j) (hj : j ≤ n) : (pw W i : Rat) < (pw W j : Rat) := Rat.intCast_lt_intCast.2 (pw_lt h hij hj)
/-- how far the sum of the first j places lies above v times their weight -/
def FF (V W : List Int) (v : Rat) (j : Nat) : Rat := (ps V W j : Rat) - v * (pw W j : Rat)
theorem FF_up {u v : Rat} {i j : Nat} (huv : u ≤ v) (hp : (pw W i : Rat) ≤ (pw W j : Rat)) (h : FF V W u j ≤ FF V W u i) : FF V W v j ≤ FF V W v i := by
  have h1 : 0 ≤ (v - u) * ((pw W j : Rat) - (pw W i : Rat)) := Rat.mul_nonneg (by grind) (by grind)
  unfold FF at *
  grind
theorem FF_dn {u v : Rat} {i j : Nat} (huv : v ≤ u) (hp : (pw W i : Rat) ≤ (pw W j : Rat)) (h : FF V W u i ≤ FF V W u j) : FF V W v i ≤ FF V W v j := by
  have h1 : 0 ≤ (u - v) * ((pw W j : Rat) - (pw W i : Rat)) := Rat.mul_nonneg (by grind) (by grind)
  unfold FF at *
  grind
theorem mean_mul (h : okTo V W n) {i j : Nat} (hij : i < j) (hj : j ≤ n) : meanq V W i j * ((pw W j : Rat) - (pw W i : Rat)) = (ps V W j : Rat) - (ps V W i : Rat) := by
  have hlt := pwq_lt h hij hj
  unfold meanq
  rw [ofq_eq, vsum_ps, wsum_pw, show i + (j - i) = j from by omega, Rat.intCast_sub, Rat.intCast_sub]
  exact Rat.div_mul_cancel (by grind)
theorem mean_le (h : okTo V W n) {i j : Nat} (hij : i < j) (hj : j ≤ n) {v : Rat} (hF : FF V W v j ≤ FF V W v i) : meanq V W i j ≤ v := by
  have hm := mean_mul h hij hj
  have hlt := pwq_lt h hij hj
  refine Rat.not_lt.1 fun hc => ?_
  have := Rat.mul_pos (show 0 < meanq V W i j - v from by grind) (show 0 < (pw W j : Rat) - (pw W i : Rat) from by grind)
  unfold FF at hF
  grind
theorem mean_ge (h : okTo V W n) {i j : Nat} (hij : i < j) (hj : j ≤ n) {v : Rat} (hF : FF V W v i ≤ FF V W v j) : v ≤ meanq V W i j := by
  have hm := mean_mul h hij hj
  have hlt := pwq_lt h hij hj
  refine Rat.not_lt.1 fun hc => ?_
  have := Rat.mul_pos (show 0 < v - meanq V W i j from by grind) (show 0 < (pw W j : Rat) - (pw W i : Rat) from by grind)
  unfold FF at hF
  grind

/-! ## Blocks -/
def bval (b : Blk) : Rat := ofq b.s b.w
structure Loc (V W : List Int) (b : Blk) (p : Nat) : Prop where
  z : 0 < b.z
  s : b.s = ps V W (p + b.z) - ps V W p
  w : b.w = pw W (p + b.z) - pw W p
  pos : 0 < b.w
  beg : ∀ j, p ≤ j → j ≤ p + b.z → FF V W (bval b) j ≤ FF V W (bval b) p
theorem bval_mul {b : Blk} (h : 0 < b.w) : bval b * (b.w : Rat) = (b.s : Rat) := by
  unfold bval
  rw [ofq_eq]
  have : (0 : Rat) < (b.w : Rat) := Rat.intCast_lt_intCast.2 h
  exact Rat.div_mul_cancel (by grind)
theorem Loc.eq {b : Blk} {p : Nat} (h : Loc V W b p) : FF V W (bval b) (p + b.z) = FF V W (bval b) p := by
  have h1 := bval_mul h.pos
  have h2 : (b.s : Rat) = (ps V W (p + b.z) : Rat) - (ps V W p : Rat) := by rw [h.s, Rat.intCast_sub]
  have h3 : (b.w : Rat) = (pw W (p + b.z) : Rat) - (pw W p : Rat) := by rw [h.w, Rat.intCast_sub]
  unfold FF
  rw [h2, h3] at h1
  grind
theorem bval_le {a t : Blk} (ha : 0 < a.w) (ht : 0 < t.w) : bval a ≤ bval t ↔ a.s * t.w ≤ t.s * a.w := by
  have h1 := bval_mul ha
  have h2 := bval_mul ht
  have h3 : (0 : Rat) < (a.w : Rat) := Rat.intCast_lt_intCast.2 ha
  have h4 : (0 : Rat) < (t.w : Rat) := Rat.intCast_lt_intCast.2 ht
  rw [← Rat.intCast_le_intCast, Rat.intCast_mul, Rat.intCast_mul, ← h1, ← h2]
  have h5 : (0 : Rat) < (a.w : Rat) * (t.w : Rat) := Rat.mul_pos h3 h4
  constructor
  · intro h
    have := Rat.mul_nonneg (show 0 ≤ bval t - bval a from by grind) (Rat.le_of_lt h5)
    grind
  · intro h
    refine Rat.not_lt.1 fun hc => ?_
    have := Rat.mul_pos (show 0 < bval a - bval t from by grind) h5
    grind
theorem Loc.merge {a t : Blk} {p : Nat} (hok : okTo V W n) (ha : Loc V W a p) (ht : Loc V W t (p + a.z)) (hn : p + a.z + t.z ≤ n) (hle : bval a ≤ bval t) : Loc V W (mrg a t) p := by
  have hpos : 0 < (mrg a t).w := by have := ha.pos; have := ht.pos; simp only [Go.Fw.mrg]; omega
  have hz : p + (mrg a t).z = p + a.z + t.z := by simp only [Go.Fw.mrg]; omega
  have h1 := bval_mul ha.pos
  have h2 := bval_mul ht.pos
  have h3 := bval_mul hpos
  have h4 : (0 : Rat) < (a.w : Rat) := Rat.intCast_lt_intCast.2 ha.pos
  have h5 : (0 : Rat) < (t.w : Rat) := Rat.intCast_lt_intCast.2 ht.pos
  have e1 : ((mrg a t).w : Rat) = (a.w : Rat) + (t.w : Rat) := Rat.intCast_add _ _
  have e2 : ((mrg a t).s : Rat) = (a.s : Rat) + (t.s : Rat) := Rat.intCast_add _ _
  rw [e1, e2] at h3
  have hs : (mrg a t).s = ps V W (p + (mrg a t).z) - ps V W p := by
    rw [hz]; have := ha.s; have := ht.s; simp only [Go.Fw.mrg]; omega
  have hw : (mrg a t).w = pw W (p + (mrg a t).z) - pw W p := by
    rw [hz]; have := ha.w; have := ht.w; simp only [Go.Fw.mrg]; omega
  have hva : bval a ≤ bval (mrg a t) := by
    refine Rat.not_lt.1 fun hc => ?_
    have x1 := Rat.mul_pos (show 0 < bval a - bval (mrg a t) from by grind) (show 0 < (a.w : Rat) + (t.w : Rat) from by grind)
    have x2 := Rat.mul_nonneg (show 0 ≤ bval t - bval a from by grind) (Rat.le_of_lt h5)
    grind
  have hvt : bval (mrg a t) ≤ bval t := by
    refine Rat.not_lt.1 fun hc => ?_
    have x1 := Rat.mul_pos (show 0 < bval (mrg a t) - bval t from by grind) (show 0 < (a.w : Rat) + (t.w : Rat) from by grind)
    have x2 := Rat.mul_nonneg (show 0 ≤ bval t - bval a from by grind) (Rat.le_of_lt h4)
    grind
  refine ⟨by have := ha.z; simp only [Go.Fw.mrg]; omega, hs, hw, hpos, fun j hj1 hj2 => ?_⟩
  rw [hz] at hj2
  rcases Nat.le_total j (p + a.z) with hj | hj
  · exact FF_up hva (pwq_mono hok hj1 (by omega)) (ha.beg j hj1 hj)
  · have x1 : FF V W (bval t) j ≤ FF V W (bval t) (p + a.z + t.z) := by rw [ht.eq]; exact ht.beg j hj hj2
    have x2 := FF_dn hvt (pwq_mono hok hj2 hn) x1
    have x3 : FF V W (bval (mrg a t)) (p + (mrg a t).z) = FF V W (bval (mrg a t)) p := by
      have y2 : ((mrg a t).s : Rat) = (ps V W (p + (mrg a t).z) : Rat) - (ps V W p : Rat) := by rw [hs, Rat.intCast_sub]
      have y3 : ((mrg a t).w : Rat) = (pw W (p + (mrg a t).z) : Rat) - (pw W p : Rat) := by rw [hw, Rat.intCast_sub]
      have y1 := bval_mul hpos
      unfold FF
      rw [y2, y3] at y1
      grind
    rw [hz] at x3
    rw [← x3]; exact x2
/-- The blocks of the first n places, the last one first: each lies well, and they fall. -/
def Stk (V W : List Int) : List Blk → Nat → Prop
  | [], n => n = 0
  | b :: S, n => ∃ p, n = p + b.z ∧ Loc V W b p ∧ Stk V W S p ∧ (∀ a ∈ S.head?, bval b < bval a)
theorem Stk.push (hok : okTo V W n) : ∀ {S : List Blk} {t : Blk} {p m : Nat}, Stk V W S p → Loc V W t p → m = p + t.z → m ≤ n → Stk V W (pushB S t) m
  | [], t, p, m, hS, ht, hm, _ => ⟨p, hm, ht, hS, fun a ha => by cases ha⟩
  | a :: S, t, p, m, hS, ht, hm, hn => by
    obtain ⟨p', rfl, ha, hS', hd⟩ := hS
    rw [pushB]
    split
    · rename_i hle
      exact Stk.push hok hS' (Loc.merge hok ha ht (by omega) ((bval_le ha.pos ht.pos).2 hle)) (by simp only [Go.Fw.mrg]; omega) hn
    · rename_i hle
      refine ⟨p' + a.z, hm, ht, ⟨p', rfl, ha, hS', hd⟩, fun c hc => ?_⟩
      obtain rfl : a = c := by simpa using hc
      exact Rat.not_le.1 fun h => hle ((bval_le ha.pos ht.pos).1 h)
theorem Loc.one (hok : okTo V W n) {k : Nat} (hk : k < n) : Loc V W (at1 V W k) k := by
  have hw : 0 < W.getD k 0 := by have := (hok k hk).2.2.1; omega
  refine ⟨Nat.one_pos, ?_, ?_, hw, fun j h1 h2 => ?_⟩
  · show _ = ps V W (k + 1) - _; rw [ps]; simp only [at1]; omega
  · show _ = pw W (k + 1) - _; rw [pw]; simp only [at1]; omega
  · have hb := bval_mul (b := at1 V W k) hw
    rcases Nat.eq_or_lt_of_le h1 with rfl | h
    · exact Rat.le_refl
    · obtain rfl : j = k + 1 := by simp only [at1] at h2; omega
      refine rle_of_eq ?_
      unfold FF
      rw [ps, pw, Rat.intCast_add, Rat.intCast_add]
      simp only [at1] at hb ⊢
      grind
theorem stk_blkR (hok : okTo V W n) : ∀ {k : Nat}, k ≤ n → Stk V W (blkR V W k) k
  | 0, _ => rfl
  | k + 1, h => by
    rw [blkR]
    exact Stk.push hok (stk_blkR hok (k := k) (by omega)) (Loc.one hok (by omega)) rfl h
theorem Stk.desc : ∀ {S : List Blk} {b : Blk} {m : Nat}, Stk V W (b :: S) m → ∀ a ∈ S, bval b < bval a
  | [], _, _, _, a, ha => by cases ha
  | c :: S, b, m, h, a, ha => by
    obtain ⟨p, _, _, hS, hd⟩ := h
    have h1 := hd c rfl
    rcases List.mem_cons.1 ha with rfl | ha
    · exact h1
    · have := Stk.desc hS a ha
      grind
theorem Stk.down (hok : okTo V W n) : ∀ {S : List Blk} {m : Nat} {v : Rat}, Stk V W S m → m ≤ n → (∀ b ∈ S, v ≤ bval b) → ∀ j, j ≤ m → FF V W v j ≤ FF V W v m
  | [], m, v, h, _, _, j, hj => by
    obtain rfl : m = 0 := h
    obtain rfl : j = 0 := by omega
    exact Rat.le_refl
  | b :: S, m, v, h, hm, hv, j, hj => by
    obtain ⟨p, rfl, hb, hS, _⟩ := h
    have hvb := hv b (by simp)
    have e1 : FF V W v p ≤ FF V W v (p + b.z) := FF_dn hvb (pwq_mono hok (by omega) hm) (rle_of_eq hb.eq.symm)
    rcases Nat.le_total j p with h1 | h1
    · have e2 := Stk.down hok hS (by omega) (fun a ha => hv a (by simp [ha])) j h1
      grind
    · exact FF_dn hvb (pwq_mono hok hj hm) (by rw [hb.eq]; exact hb.beg j h1 hj)
/-- v is the value of the fit at place k. -/
def IsFit (V W : List Int) (n k : Nat) (v : Rat) : Prop := ∃ p q, p ≤ k ∧ k < q ∧ q ≤ n ∧ (∀ j, j ≤ n → FF V W v j ≤ FF V W v p) ∧ (∀ j, j ≤ n → FF V W v j ≤ FF V W v q)
/-- each block, with its place, is where the sums are greatest -/
def Tops (V W : List Int) (n : Nat) : List Blk → Nat → Prop
  | [], m => m = 0
  | b :: S, m => ∃ p, m = p + b.z ∧ 0 < b.z ∧ (∀ j, j ≤ n → FF V W (bval b) j ≤ FF V W (bval b) p) ∧ (∀ j, j ≤ n → FF V W (bval b) j ≤ FF V W (bval b) m) ∧ (∀ a ∈ S.head?, bval b < bval a) ∧ Tops V W n S p
theorem Stk.tops (hok : okTo V W n) : ∀ {S : List Blk} {m : Nat}, Stk V W S m → m ≤ n → (∀ a ∈ S.head?, ∀ v, bval a ≤ v → ∀ j, m ≤ j → j ≤ n → FF V W v j ≤ FF V W v m) → Tops V W n S m
  | [], m, h, _, _ => h
  | b :: S, m, h, hm, hup => by
    have hdesc := Stk.desc h
    obtain ⟨p, rfl, hb, hS, hd⟩ := h
    have hu := hup b rfl
    have heq := hb.eq
    have hP : ∀ j, j ≤ n → FF V W (bval b) j ≤ FF V W (bval b) p := by
      intro j hj
      rcases Nat.le_total j p with h1 | h1
      · exact Stk.down hok hS (by omega) (fun a ha => Rat.le_of_lt (hdesc a ha)) j h1
      · rcases Nat.le_total j (p + b.z) with h2 | h2
        · exact hb.beg j h1 h2
        · rw [← heq]; exact hu _ Rat.le_refl j h2 hj
    refine ⟨p, rfl, hb.z, hP, fun j hj => by rw [heq]; exact hP j hj, hd, Stk.tops hok hS (by omega) fun a ha v hv j h1 hj => ?_⟩
    have hbv : bval b ≤ v := by have := hd a ha; grind
    rcases Nat.le_total j (p + b.z) with h2 | h2
    · exact FF_up hbv (pwq_mono hok h1 hj) (hb.beg j h1 h2)
    · have e1 := hu v hbv j h2 hj
      have e2 : FF V W v (p + b.z) ≤ FF V W v p := FF_up hbv (pwq_mono hok (by omega) (by omega)) (rle_of_eq heq)
      grind
theorem tops_blkR (hok : okTo V W n) : Tops V W n (blkR V W n) n := by
  refine Stk.tops hok (stk_blkR hok (Nat.le_refl n)) (Nat.le_refl n) fun a _ v _ j h1 h2 => ?_
  rw [show j = n from by omega]; exact Rat.le_refl
theorem fitB_snoc (S : List Blk) (b : Blk) : fitB (b :: S).reverse = fitB S.reverse ++ List.replicate b.z (bval b) := by
  unfold fitB bval
  rw [List.reverse_cons, List.flatMap_append, List.flatMap_cons, List.flatMap_nil, List.append_nil]
theorem Tops.fit : ∀ {S : List Blk} {m : Nat}, Tops V W n S m → m ≤ n → (fitB S.reverse).length = m ∧ ∀ k, k < m → IsFit V W n k ((fitB S.reverse).getD k 0)
  | [], m, h, _ => by
    obtain rfl : m = 0 := h
    exact ⟨rfl, fun k hk => absurd hk (Nat.not_lt_zero k)⟩
  | b :: S, m, h, hm => by
    obtain ⟨p, rfl, hz, hP, hQ, _, hS⟩ := h
    obtain ⟨ih1, ih2⟩ := Tops.fit hS (by omega)
    rw [fitB_snoc]
    refine ⟨by rw [List.length_append, List.length_replicate, ih1], fun k hk => ?_⟩
    rw [List.getD_eq_getElem?_getD]
    rcases Nat.lt_or_ge k p with h1 | h1
    · rw [List.getElem?_append_left (by rw [ih1]; exact h1), ← List.getD_eq_getElem?_getD]
      exact ih2 k h1
    · rw [List.getElem?_append_right (by rw [ih1]; exact h1), ih1, List.getElem?_replicate, if_pos (by omega)]
      exact ⟨p, p + b.z, h1, hk, hm, hP, hQ⟩
theorem fitL_ok (h : chk V W = 0) : (fitL V W).length = V.length ∧ ∀ k, k < V.length → IsFit V W V.length k ((fitL V W).getD k 0) := by
  obtain ⟨_, _, hok⟩ := chk_zero h
  have := Tops.fit (tops_blkR hok) (Nat.le_refl _)
  unfold fitL blkL
  rw [if_pos h]
  exact this
theorem isFit_unique (hok : okTo V W n) {k : Nat} {u v : Rat} (hu : IsFit V W n k u) (hv : IsFit V W n k v) : u = v := by
  have key : ∀ {u v : Rat}, IsFit V W n k u → IsFit V W n k v → u ≤ v := by
    intro u v ⟨p, q, h1, h2, h3, h4, h5⟩ ⟨p', q', a1, a2, a3, a4, a5⟩
    have e1 := mean_ge hok (show p' < q from by omega) h3 (h5 p' (by omega))
    have e2 := mean_le hok (show p' < q from by omega) h3 (a4 q h3)
    exact Rat.le_trans e1 e2
  exact Rat.le_antisymm (key hu hv) (key hv hu)
/-! ## The least of the greatest means -/
def mst (V W : List Int) (i k : Nat) : Nat → Rat
  | 0 => meanq V W i (k + 1)
  | d + 1 => if mst V W i k d < meanq V W i (k + 2 + d) then meanq V W i (k + 2 + d) else mst V W i k d
theorem mst_ge {i k : Nat} : ∀ {d j : Nat}, k < j → j ≤ k + 1 + d → meanq V W i j ≤ mst V W i k d
  | 0, j, h1, h2 => by rw [show j = k + 1 from by omega]; exact Rat.le_refl
  | d + 1, j, h1, h2 => by
    rw [mst]
    rcases Nat.eq_or_lt_of_le h2 with h | h
    · rw [show j = k + 2 + d from by omega]
      split
      · exact Rat.le_refl
      · grind
    · have := mst_ge (i := i) (d := d) h1 (by omega)
      split
      · grind
      · exact this
theorem mst_eq {i k : Nat} : ∀ {d : Nat}, ∃ j, k < j ∧ j ≤ k + 1 + d ∧ mst V W i k d = meanq V W i j
  | 0 => ⟨k + 1, by omega, by omega, rfl⟩
  | d + 1 => by
    rw [mst]
    split
    · exact ⟨k + 2 + d, by omega, by omega, rfl⟩
    · obtain ⟨j, h1, h2, h3⟩ := mst_eq (d := d)
      exact ⟨j, h1, by omega, h3⟩
def lst (V W : List Int) (n k : Nat) : Nat → Rat
  | 0 => mst V W 0 k (n - (k + 1))
  | i + 1 => if mst V W (i + 1) k (n - (k + 1)) < lst V W n k i then mst V W (i + 1) k (n - (k + 1)) else lst V W n k i
theorem lst_le {k : Nat} : ∀ {t i : Nat}, i ≤ t → lst V W n k t ≤ mst V W i k (n - (k + 1))
  | 0, i, h => by rw [show i = 0 from by omega]; exact Rat.le_refl
  | t + 1, i, h => by
    rw [lst]
    rcases Nat.eq_or_lt_of_le h with h | h
    · rw [h]
      split
      · exact Rat.le_refl
      · grind
    · have := lst_le (k := k) (t := t) (i := i) (by omega)
      split
      · grind
      · exact this
theorem lst_eq {k : Nat} : ∀ {t : Nat}, ∃ i, i ≤ t ∧ lst V W n k t = mst V W i k (n - (k + 1))
  | 0 => ⟨0, Nat.le_refl _, rfl⟩
  | t + 1 => by
    rw [lst]
    split
    · exact ⟨t + 1, Nat.le_refl _, rfl⟩
    · obtain ⟨i, h1, h2⟩ := lst_eq (t := t)
      exact ⟨i, by omega, h2⟩
theorem isFit_lst (hok : okTo V W n) {k : Nat} (hk : k < n) {v : Rat} (h : IsFit V W n k v) : lst V W n k k = v := by
  obtain ⟨p, q, h1, h2, h3, h4, h5⟩ := h
  refine Rat.le_antisymm ?_ ?_
  · have e1 := lst_le (n := n) (k := k) (V := V) (W := W) h1
    obtain ⟨j, a1, a2, a3⟩ := mst_eq (V := V) (W := W) (i := p) (k := k) (d := n - (k + 1))
    have e2 := mean_le hok (show p < j from by omega) (by omega) (h4 j (by omega))
    rw [← a3] at e2
    exact Rat.le_trans e1 e2
  · obtain ⟨i, a1, a2⟩ := lst_eq (V := V) (W := W) (n := n) (k := k) (t := k)
    rw [a2]
    have e1 := mst_ge (V := V) (W := W) (i := i) (k := k) (d := n - (k + 1)) h2 (by omega)
    have e2 := mean_ge hok (show i < q from by omega) h3 (h5 i (by omega))
    exact Rat.le_trans e2 e1
/-- what the reference returns -/
def rfitL (V W : List Int) : List Rat := if chk V W = 0 then (List.range V.length).map (fun k => lst V W V.length k k) else []
theorem fitL_rfit (V W : List Int) : fitL V W = rfitL V W := by
  by_cases h : chk V W = 0
  · obtain ⟨h1, h2⟩ := fitL_ok h
    obtain ⟨_, _, hok⟩ := chk_zero h
    refine List.ext_getElem? fun k => ?_
    unfold rfitL
    rw [if_pos h, List.getElem?_map]
    rcases Nat.lt_or_ge k V.length with hk | hk
    · rw [List.getElem?_range hk, Option.map_some, isFit_lst hok hk (h2 k hk), List.getD_eq_getElem?_getD, List.getElem?_eq_getElem (by rw [h1]; exact hk)]
      rfl
    · rw [List.getElem?_eq_none (by rw [h1]; exact hk), List.getElem?_eq_none (by simpa using hk)]; rfl
  · unfold fitL rfitL; rw [if_neg h, if_neg h]
end Go.Fw

/- Chapter 40: what the reference keeps; where the fit changes. -/
namespace Go.Fw
open Go Go.RowKit Go.Nat9

section
variable {V W : List Int} {n : Nat}
def lsto (V W : List Int) (n k : Nat) : Nat → Option Rat
  | 0 => none
  | i + 1 => some (lst V W n k i)
theorem lsto_first {i k d : Nat} {q : Rat} (hq : q = mst V W i k d) (hi : i = 0) (hd : d = n - (k + 1)) : some q = lsto V W n k (i + 1) := by
  subst hi hd hq; rfl
theorem lsto_less {i k d : Nat} {q : Rat} {o : Option Rat} (hq : q = mst V W i k d) (hd : d = n - (k + 1)) (hi : i ≠ 0) (ho : o = lsto V W n k i) (h : cmpQ q (fval o) < 0) : some q = lsto V W n k (i + 1) := by
  obtain ⟨i, rfl⟩ : ∃ m, i = m + 1 := ⟨i - 1, by omega⟩
  subst hd hq ho
  have h' : mst V W (i + 1) k (n - (k + 1)) < lst V W n k i := cmpQ_neg.1 h
  show _ = some (lst V W n k (i + 1))
  rw [lst, if_pos h']
theorem lsto_keep {i k d : Nat} {q : Rat} {o : Option Rat} (hq : q = mst V W i k d) (hd : d = n - (k + 1)) (hi : i ≠ 0) (ho : o = lsto V W n k i) (h : ¬ cmpQ q (fval o) < 0) : o = lsto V W n k (i + 1) := by
  obtain ⟨i, rfl⟩ : ∃ m, i = m + 1 := ⟨i - 1, by omega⟩
  subst hd hq ho
  have h' : ¬ mst V W (i + 1) k (n - (k + 1)) < lst V W n k i := fun e => h (cmpQ_neg.2 e)
  show some _ = some (lst V W n k (i + 1))
  rw [lst, if_neg h']
theorem mst_pick {i k d : Nat} {q : Rat} (hq : q = mst V W i k d) (h : cmpQ (meanq V W i (k + 2 + d)) q > 0) : meanq V W i (k + 2 + d) = mst V W i k (d + 1) := by
  subst hq; rw [mst, if_pos (cmpQ_pos.1 h)]
theorem mst_hold {i k d : Nat} {q : Rat} (hq : q = mst V W i k d) (h : ¬ cmpQ (meanq V W i (k + 2 + d)) q > 0) : q = mst V W i k (d + 1) := by
  subst hq; rw [mst, if_neg (fun e => h (cmpQ_pos.2 e))]
theorem qs_mst (h : chk V W = 0) {i k d : Nat} (hd : k + 1 + d ≤ V.length) : qs (mst V W i k d) 3 := by
  obtain ⟨j, h1, h2, h3⟩ := mst_eq (V := V) (W := W) (i := i) (k := k) (d := d)
  rw [h3]; exact qs_meanq h (by omega)
theorem qs_lst (h : chk V W = 0) {k t : Nat} (hk : k < V.length) : qs (lst V W V.length k t) 3 := by
  obtain ⟨i, _, h2⟩ := lst_eq (V := V) (W := W) (n := V.length) (k := k) (t := t)
  rw [h2]; exact qs_mst h (by omega)
theorem qs_lsto (h : chk V W = 0) {k i : Nat} (hk : k < V.length) {o : Option Rat} (ho : o = lsto V W V.length k i) : qs (fval o) 3 := by
  subst ho
  cases i with
  | zero => exact qs_zero.mono (by decide)
  | succ i => exact qs_lst h hk
theorem qs_rfit (V W : List Int) (k : Nat) : qs ((rfitL V W).getD k 0) 3 := by
  unfold rfitL
  split
  · rename_i h
    rw [List.getD_eq_getElem?_getD, List.getElem?_map]
    rcases Nat.lt_or_ge k V.length with hk | hk
    · rw [List.getElem?_range hk]; exact qs_lst h hk
    · rw [List.getElem?_eq_none (by simpa using hk)]; exact qs_zero.mono (by decide)
  · rw [List.getD_eq_getElem?_getD]; exact qs_zero.mono (by decide)
theorem fes_qs {l : List Fe} (hl : l.map (·.q) = rfitL V W) (j : Nat) : qs (l.getD j dF).q 3 := by rw [← map_getD, hl]; exact qs_rfit V W j
theorem fes_len {l : List Fe} (hl : l.map (·.q) = rfitL V W) : l.length ≤ V.length := by
  have := congrArg List.length hl
  rw [List.length_map] at this
  rw [this]
  unfold rfitL
  split
  · simp
  · exact Nat.zero_le _
/-- where a list changes -/
def rbeg (R : List Rat) : Nat → List Int
  | 0 => []
  | i + 1 => rbeg R i ++ (if i = 0 ∨ R.getD i 0 ≠ R.getD (i - 1) 0 then [(i : Int)] else [])
theorem rbeg_len (R : List Rat) : ∀ i, (rbeg R i).length ≤ i
  | 0 => Nat.le_refl _
  | i + 1 => by
    have := rbeg_len R i
    rw [rbeg, List.length_append]
    split <;> simp <;> omega
def rbegL (V W : List Int) : List Int := if chk V W = 0 then rbeg (rfitL V W) (rfitL V W).length else []
theorem rbegL_len (V W : List Int) : (rbegL V W).length ≤ V.length := by
  unfold rbegL
  by_cases h : chk V W = 0
  · rw [if_pos h]
    refine Nat.le_trans (rbeg_len _ _) ?_
    rw [rfitL, if_pos h]
    simp
  · rw [if_neg h]; exact Nat.zero_le _
def sts : List Blk → List Int
  | [] => []
  | _ :: S => sts S ++ [((zsum S : Nat) : Int)]
theorem sts_stB : ∀ S : List Blk, (List.range S.reverse.length).map (stB S.reverse) = sts S
  | [] => rfl
  | b :: S => by
    have ih := sts_stB S
    rw [sts, ← ih, List.reverse_cons, List.length_append, List.length_cons, List.length_nil, List.range_succ, List.map_append]
    congr 1
    · refine List.map_congr_left fun j hj => ?_
      have hj' : j < S.reverse.length := List.mem_range.1 hj
      unfold stB
      rw [List.take_append_of_le_length (by omega)]
    · simp only [List.map_cons, List.map_nil, stB]
      rw [List.take_append_of_le_length (by simp), List.take_of_length_le (by simp), zsum_rev]
theorem Tops.zsum : ∀ {S : List Blk} {m : Nat}, Tops V W n S m → zsum S = m
  | [], m, h => (show m = 0 from h).symm
  | b :: S, m, h => by
    obtain ⟨p, rfl, _, _, _, _, hS⟩ := h
    rw [zsum_cons, Tops.zsum hS]; omega
theorem Tops.beg {R : List Rat} : ∀ {S : List Blk} {m : Nat}, Tops V W n S m → (∀ k, k < m → R.getD k 0 = (fitB S.reverse).getD k 0) → rbeg R m = sts S
  | [], m, h, _ => by
    obtain rfl : m = 0 := h
    rfl
  | b :: S, m, h, hR => by
    have hzs := Tops.zsum h
    obtain ⟨p, rfl, hz, _, _, hd, hS⟩ := h
    have hlen : (fitB S.reverse).length = p := by rw [fitB_len, zsum_rev, Tops.zsum hS]
    have hlow : ∀ k, k < p → R.getD k 0 = (fitB S.reverse).getD k 0 := fun k hk => by
      rw [hR k (by omega), fitB_snoc, List.getD_eq_getElem?_getD, List.getElem?_append_left (by omega), ← List.getD_eq_getElem?_getD]
    have hhigh : ∀ k, p ≤ k → k < p + b.z → R.getD k 0 = bval b := fun k h1 h2 => by
      rw [hR k h2, fitB_snoc, List.getD_eq_getElem?_getD, List.getElem?_append_right (by omega), hlen, List.getElem?_replicate, if_pos (by omega)]; rfl
    have ih := Tops.beg hS hlow
    have step : ∀ d, d < b.z → rbeg R (p + (d + 1)) = rbeg R p ++ [(p : Int)] := by
      intro d
      induction d with
      | zero =>
        intro _
        show rbeg R (p + 1) = _
        rw [rbeg, if_pos ?_]
        rcases Nat.eq_zero_or_pos p with h0 | h0
        · exact .inl h0
        · refine .inr ?_
          rw [hhigh p (Nat.le_refl _) (by omega), hlow (p - 1) (by omega)]
          cases S with
          | nil =>
            have : p = 0 := hS
            omega
          | cons a S =>
            have hda := hd a rfl
            obtain ⟨p', hp', hz', _, _, _, hS'⟩ := hS
            have hlen' : (fitB S.reverse).length = p' := by rw [fitB_len, zsum_rev, Tops.zsum hS']
            rw [fitB_snoc, List.getD_eq_getElem?_getD, List.getElem?_append_right (by omega), hlen', List.getElem?_replicate, if_pos (by omega)]
            show bval b ≠ bval a
            intro e
            rw [e] at hda
            exact Rat.lt_irrefl hda
      | succ d ihd =>
        intro hdz
        show rbeg R (p + (d + 1) + 1) = _
        rw [rbeg, ihd (by omega), if_neg ?_, List.append_nil]
        rintro (h | h)
        · omega
        · exact h (by rw [hhigh _ (by omega) (by omega), hhigh _ (by omega) (by omega)])
    have := step (b.z - 1) (by omega)
    rw [show p + (b.z - 1 + 1) = p + b.z from by omega] at this
    rw [this, ih, sts, Tops.zsum hS]
theorem begL_rbeg (V W : List Int) : begL V W = rbegL V W := by
  unfold begL rbegL
  by_cases h : chk V W = 0
  · rw [if_pos h, if_pos h]
    obtain ⟨_, _, hok⟩ := chk_zero h
    have ht := tops_blkR hok
    rw [← fitL_rfit, (fitL_ok h).1]
    rw [Tops.beg (R := fitL V W) ht (fun k _ => by unfold fitL blkL; rw [if_pos h])]
    exact sts_stB _
  · rw [if_neg h, if_neg h]
end
section
variable {P : Program} {Q : Exit → Act → World → Prop} {w0 : Ctx} {σ : List Res} {φ : List (Bool × VP)} {fr : Fr} {c : Code}
theorem JC_noneViews (k : JC P c Q w0 σ ((true, vCells none (u32s (fnum none))) :: (true, vCells none (u32s (fden none))) :: φ) fr) : JC P c Q w0 σ φ fr :=
  JC_addView (fun _ _ => nilv) (JC_addView (fun _ _ => nilv) k)
end
end Go.Fw

/- Chapter 40: laws of the fit, in plain numbers: turned round, moved, with a place parted, of falling lists; its weighted sum. No program. -/
namespace Go.Fw
open Go Go.RowKit Go.Nat9

theorem fit_eq {V W : List Int} (h : chk V W = 0) {k : Nat} (hk : k < V.length) {v : Rat} (hv : IsFit V W V.length k v) : (fitL V W).getD k 0 = v :=
  isFit_unique (chk_zero h).2.2 ((fitL_ok h).2 k hk) hv
theorem fit_is {V W : List Int} (h : chk V W = 0) {k : Nat} (hk : k < V.length) : IsFit V W V.length k ((fitL V W).getD k 0) := (fitL_ok h).2 k hk

/-! ## Lists that are filled place by place -/
theorem mr_getD {α : Type} (f : Nat → α) (n i : Nat) (x : α) : ((List.range n).map f).getD i x = if i < n then f i else x := by
  rw [List.getD_eq_getElem?_getD, List.getElem?_map]
  split
  · rename_i h; rw [List.getElem?_range h]; rfl
  · rename_i h; rw [List.getElem?_eq_none (by simpa using h)]; rfl
theorem mr_get {α : Type} (f : Nat → α) {n i : Nat} (x : α) (h : i < n) : ((List.range n).map f).getD i x = f i := by rw [mr_getD, if_pos h]
theorem mr_len {α : Type} (f : Nat → α) (n : Nat) : ((List.range n).map f).length = n := by simp
theorem mr_set {α : Type} (f : Nat → α) (n i : Nat) (x : α) : ((List.range n).map f).set i x = (List.range n).map (fun k => if k = i then x else f k) := by
  refine List.ext_getElem? fun k => ?_
  rw [List.getElem?_set, List.getElem?_map, List.getElem?_map]
  simp only [List.length_map, List.length_range]
  rcases Nat.lt_or_ge k n with hk | hk
  · rw [List.getElem?_range hk]
    by_cases h : i = k
    · subst h; simp [hk]
    · simp [h, Ne.symm h]
  · rw [List.getElem?_eq_none (by simpa using hk)]
    by_cases h : i = k
    · subst h; simp [Nat.not_lt.2 hk]
    · simp [h]
theorem mr_congr {α : Type} {f g : Nat → α} {n : Nat} (h : ∀ k, k < n → f k = g k) : (List.range n).map f = (List.range n).map g :=
  List.map_congr_left fun k hk => h k (List.mem_range.1 hk)
theorem mr_self {α : Type} (l : List α) (x : α) : (List.range l.length).map (fun k => l.getD k x) = l := by
  refine List.ext_getElem? fun k => ?_
  rw [List.getElem?_map]
  rcases Nat.lt_or_ge k l.length with hk | hk
  · rw [List.getElem?_range hk, List.getElem?_eq_getElem hk, Option.map_some, List.getD_eq_getElem?_getD, List.getElem?_eq_getElem hk]; rfl
  · rw [List.getElem?_eq_none (by simpa using hk), List.getElem?_eq_none hk]; rfl
/-- n places, of which the first i are filled -/
def fillL (f g : Nat → Int) (n i : Nat) : List Int := (List.range n).map fun k => if k < i then f k else g k
theorem fillL_len (f g : Nat → Int) (n i : Nat) : (fillL f g n i).length = n := mr_len _ _
theorem fillL_zero (f : Nat → Int) (n : Nat) : fillL f (fun _ => 0) n 0 = List.replicate n 0 := by
  unfold fillL
  rw [mr_congr (g := fun _ => (0 : Int)) fun _ _ => if_neg (Nat.not_lt_zero _)]
  rw [List.map_const', List.length_range]
theorem fillL_start (f : Nat → Int) (V : List Int) : fillL f (fun k => V.getD k 0) V.length 0 = V := by
  unfold fillL
  rw [mr_congr (g := fun k => V.getD k 0) fun _ _ => if_neg (Nat.not_lt_zero _)]
  exact mr_self V 0
theorem fillL_set (f g : Nat → Int) (n i : Nat) : (fillL f g n i).set i (f i) = fillL f g n (i + 1) := by
  unfold fillL
  rw [mr_set]
  refine mr_congr fun k _ => ?_
  by_cases h : k = i
  · subst h; rw [if_pos rfl, if_pos (by omega)]
  · rw [if_neg h]
    by_cases h2 : k < i
    · rw [if_pos h2, if_pos (by omega)]
    · rw [if_neg h2, if_neg (by omega)]
theorem fillL_full (f g : Nat → Int) (n : Nat) : fillL f g n n = (List.range n).map f := mr_congr fun _ hk => if_pos hk
theorem fillL_lo {f g : Nat → Int} {n i k : Nat} (h : k < i) (hn : k < n) : (fillL f g n i).getD k 0 = f k := by unfold fillL; rw [mr_get _ _ hn, if_pos h]
theorem fillL_hi {f g : Nat → Int} {n i k : Nat} (h : i ≤ k) (hn : k < n) : (fillL f g n i).getD k 0 = g k := by unfold fillL; rw [mr_get _ _ hn, if_neg (by omega)]

section
variable {V W X Y : List Int} {n : Nat}
theorem isFit_of {X Y : List Int} {m : Nat} {u : Rat} {k p q : Nat} (h1 : p ≤ k) (h2 : k < q) (h3 : q ≤ m) (hp : ∀ j, j ≤ m → FF X Y u j ≤ FF X Y u p) (hq : FF X Y u p ≤ FF X Y u q) : IsFit X Y m k u :=
  ⟨p, q, h1, h2, h3, hp, fun j hj => Rat.le_trans (hp j hj) hq⟩
/-! ## Turned round -/
theorem ps_turn (hX : ∀ i, i < n → X.getD i 0 = - V.getD (n - 1 - i) 0) (hY : ∀ i, i < n → Y.getD i 0 = W.getD (n - 1 - i) 0) : ∀ {j : Nat}, j ≤ n → ps X Y j = ps V W (n - j) - ps V W n ∧ pw Y j = pw W n - pw W (n - j)
  | 0, _ => by
    constructor
    · show (0 : Int) = _; rw [Nat.sub_zero]; omega
    · show (0 : Int) = _; rw [Nat.sub_zero]; omega
  | j + 1, hj => by
    obtain ⟨h1, h2⟩ := ps_turn hX hY (j := j) (by omega)
    have e : n - j = (n - 1 - j) + 1 := by omega
    have e2 : n - (j + 1) = n - 1 - j := by omega
    rw [e, ps] at h1
    rw [e, pw] at h2
    rw [ps, pw, h1, h2, hX j (by omega), hY j (by omega), e2, Int.neg_mul]
    omega
theorem FF_turn (hX : ∀ i, i < n → X.getD i 0 = - V.getD (n - 1 - i) 0) (hY : ∀ i, i < n → Y.getD i 0 = W.getD (n - 1 - i) 0) (v : Rat) {j : Nat} (hj : j ≤ n) : FF X Y (-v) j = FF V W v (n - j) - FF V W v n := by
  obtain ⟨h1, h2⟩ := ps_turn hX hY hj
  unfold FF
  rw [h1, h2, Rat.intCast_sub, Rat.intCast_sub]
  grind
theorem isFit_turn (hX : ∀ i, i < n → X.getD i 0 = - V.getD (n - 1 - i) 0) (hY : ∀ i, i < n → Y.getD i 0 = W.getD (n - 1 - i) 0) {k : Nat} {v : Rat} (h : IsFit V W n k v) : IsFit X Y n (n - 1 - k) (-v) := by
  obtain ⟨p, q, h1, h2, h3, h4, h5⟩ := h
  refine ⟨n - q, n - p, by omega, by omega, by omega, fun j hj => ?_, fun j hj => ?_⟩
  · rw [FF_turn hX hY v hj, FF_turn hX hY v (by omega), show n - (n - q) = q from by omega]
    have := h5 (n - j) (by omega)
    grind
  · rw [FF_turn hX hY v hj, FF_turn hX hY v (by omega), show n - (n - p) = p from by omega]
    have := h4 (n - j) (by omega)
    grind
/-! ## Moved -/
theorem ps_move {c d : Int} (hX : ∀ i, i < n → X.getD i 0 = c * V.getD i 0 + d) : ∀ {j : Nat}, j ≤ n → ps X W j = c * ps V W j + d * pw W j
  | 0, _ => by show (0 : Int) = c * 0 + d * 0; omega
  | j + 1, hj => by
    have h1 := ps_move hX (j := j) (by omega)
    rw [ps, ps, pw, h1, hX j (by omega), Int.add_mul, Int.mul_add, Int.mul_add, Int.mul_assoc]
    omega
theorem isFit_move {c d : Int} (hc : 0 ≤ c) (hX : ∀ i, i < n → X.getD i 0 = c * V.getD i 0 + d) {k : Nat} {v : Rat} (h : IsFit V W n k v) : IsFit X W n k (v * (c : Rat) + (d : Rat)) := by
  have hc' : (0 : Rat) ≤ (c : Rat) := Rat.intCast_le_intCast.2 hc
  have key : ∀ j, j ≤ n → FF X W (v * (c : Rat) + (d : Rat)) j = (c : Rat) * FF V W v j := by
    intro j hj
    unfold FF
    rw [ps_move hX hj, Rat.intCast_add, Rat.intCast_mul, Rat.intCast_mul]
    grind
  have mul : ∀ {a b : Rat}, a ≤ b → (c : Rat) * a ≤ (c : Rat) * b := fun hab => Rat.mul_le_mul_of_nonneg_left hab hc'
  obtain ⟨p, q, h1, h2, h3, h4, h5⟩ := h
  refine ⟨p, q, h1, h2, h3, fun j hj => ?_, fun j hj => ?_⟩
  · rw [key j hj, key p (by omega)]; exact mul (h4 j hj)
  · rw [key j hj, key q (by omega)]; exact mul (h5 j hj)
/-! ## A place parted -/
theorem ps_part {k : Nat} {a b : Int} (hX : ∀ i, i ≤ n → X.getD i 0 = V.getD (if i ≤ k then i else i - 1) 0) (hY : ∀ i, i ≤ n → Y.getD i 0 = if i < k then W.getD i 0 else if i = k then a else if i = k + 1 then b else W.getD (i - 1) 0)
    (hab : a + b = W.getD k 0) (hk : k < n) : (∀ {j : Nat}, j ≤ k → ps X Y j = ps V W j ∧ pw Y j = pw W j) ∧ (ps X Y (k + 1) = ps V W k + V.getD k 0 * a ∧ pw Y (k + 1) = pw W k + a) ∧ ∀ {d : Nat}, k + 1 + d ≤ n → ps X Y (k + 2 + d) = ps V W (k + 1 + d) ∧ pw Y (k + 2 + d) = pw W (k + 1 + d) := by
  have A : ∀ {j : Nat}, j ≤ k → ps X Y j = ps V W j ∧ pw Y j = pw W j := by
    intro j
    induction j with
    | zero => intro _; exact ⟨rfl, rfl⟩
    | succ j ih =>
      intro hj
      obtain ⟨h1, h2⟩ := ih (by omega)
      rw [ps, ps, pw, pw, h1, h2, hX j (by omega), hY j (by omega), if_pos (by omega), if_pos (by omega)]
      exact ⟨rfl, rfl⟩
  have B : ps X Y (k + 1) = ps V W k + V.getD k 0 * a ∧ pw Y (k + 1) = pw W k + a := by
    obtain ⟨h1, h2⟩ := A (Nat.le_refl k)
    rw [ps, pw, h1, h2, hX k (by omega), hY k (by omega), if_pos (Nat.le_refl k), if_neg (by omega), if_pos rfl]
    exact ⟨rfl, rfl⟩
  refine ⟨A, B, ?_⟩
  intro d
  induction d with
  | zero =>
    intro hd
    obtain ⟨h1, h2⟩ := B
    show ps X Y (k + 1 + 1) = ps V W (k + 1) ∧ pw Y (k + 1 + 1) = pw W (k + 1)
    rw [ps, pw, h1, h2, hX (k + 1) (by omega), hY (k + 1) (by omega), if_neg (by omega), if_neg (by omega), if_neg (by omega), if_pos rfl, Nat.add_sub_cancel, ps, pw, ← hab, Int.mul_add]
    exact ⟨by omega, by omega⟩
  | succ d ih =>
    intro hd
    obtain ⟨h1, h2⟩ := ih (by omega)
    show ps X Y (k + 2 + d + 1) = ps V W (k + 1 + d + 1) ∧ pw Y (k + 2 + d + 1) = pw W (k + 1 + d + 1)
    rw [ps, pw, h1, h2, hX (k + 2 + d) (by omega), hY (k + 2 + d) (by omega), if_neg (by omega), if_neg (by omega), if_neg (by omega), if_neg (by omega), show k + 2 + d - 1 = k + 1 + d from by omega, ps, pw]
    exact ⟨rfl, rfl⟩
theorem isFit_part {k : Nat} {a b : Int} (hX : ∀ i, i ≤ n → X.getD i 0 = V.getD (if i ≤ k then i else i - 1) 0) (hY : ∀ i, i ≤ n → Y.getD i 0 = if i < k then W.getD i 0 else if i = k then a else if i = k + 1 then b else W.getD (i - 1) 0)
    (hab : a + b = W.getD k 0) (ha : 0 ≤ a) (hb : 0 ≤ b) (hk : k < n) {i : Nat} {v : Rat} (h : IsFit V W n (if i ≤ k then i else i - 1) v) : IsFit X Y (n + 1) i v := by
  obtain ⟨A, ⟨B1, B2⟩, C⟩ := ps_part hX hY hab hk
  have ha' : (0 : Rat) ≤ (a : Rat) := Rat.intCast_le_intCast.2 ha
  have hb' : (0 : Rat) ≤ (b : Rat) := Rat.intCast_le_intCast.2 hb
  have FA : ∀ {j : Nat}, j ≤ k → FF X Y v j = FF V W v j := fun hj => by obtain ⟨e1, e2⟩ := A hj; unfold FF; rw [e1, e2]
  have FC : ∀ {j : Nat}, k + 1 ≤ j → j ≤ n → FF X Y v (j + 1) = FF V W v j := fun {j} h1 h2 => by
    obtain ⟨d, rfl⟩ := Nat.exists_eq_add_of_le h1
    obtain ⟨e1, e2⟩ := C (d := d) h2
    unfold FF
    rw [show k + 1 + d + 1 = k + 2 + d from by omega, e1, e2]
  have FB : FF X Y v (k + 1) ≤ FF V W v k ∨ FF X Y v (k + 1) ≤ FF V W v (k + 1) := by
    have e1 : FF X Y v (k + 1) = FF V W v k + ((V.getD k 0 : Int) - v) * (a : Rat) := by
      unfold FF; rw [B1, B2, Rat.intCast_add, Rat.intCast_add, Rat.intCast_mul]; grind
    have e2 : FF V W v (k + 1) = FF V W v k + ((V.getD k 0 : Int) - v) * ((a : Rat) + (b : Rat)) := by
      unfold FF; rw [ps, pw, ← hab, Rat.intCast_add, Rat.intCast_add, Rat.intCast_mul, Rat.intCast_add]; grind
    by_cases hv : ((V.getD k 0 : Int) : Rat) ≤ v
    · refine .inl ?_
      have := Rat.mul_nonneg (show 0 ≤ v - ((V.getD k 0 : Int) : Rat) from by grind) ha'
      grind
    · refine .inr ?_
      have hv' := Rat.not_le.1 hv
      have := Rat.mul_nonneg (show 0 ≤ ((V.getD k 0 : Int) : Rat) - v from by grind) hb'
      grind
  obtain ⟨p, q, h1, h2, h3, h4, h5⟩ := h
  have top : ∀ {t : Nat}, t ≤ n → (∀ j, j ≤ n → FF V W v j ≤ FF V W v t) → ∀ j, j ≤ n + 1 → FF X Y v j ≤ FF V W v t := by
    intro t ht hT j hj
    rcases Nat.lt_or_ge k j with hkj | hkj
    · rcases Nat.eq_or_lt_of_le hkj with e | e
      · subst e
        rcases FB with f | f
        · exact Rat.le_trans f (hT k (by omega))
        · exact Rat.le_trans f (hT (k + 1) (by omega))
      · obtain ⟨j', rfl⟩ : ∃ m, j = m + 1 := ⟨j - 1, by omega⟩
        rw [FC (by omega) (by omega)]
        exact hT j' (by omega)
    · rw [FA hkj]; exact hT j (by omega)
  have at' : ∀ {t : Nat}, t ≤ n → FF X Y v (if t ≤ k then t else t + 1) = FF V W v t := by
    intro t ht
    split
    · rename_i h; exact FA h
    · rename_i h; exact FC (by omega) ht
  refine ⟨if p ≤ k then p else p + 1, if q ≤ k then q else q + 1, ?_, ?_, ?_, fun j hj => ?_, fun j hj => ?_⟩
  · split at h1 <;> split <;> omega
  · split at h2 <;> split <;> omega
  · split <;> omega
  · rw [at' (by omega)]; exact top (by omega) h4 j hj
  · rw [at' h3]; exact top h3 h5 j hj
/-! ## Falling lists -/
theorem FF_step (V W : List Int) (v : Rat) (j : Nat) : FF V W v (j + 1) = FF V W v j + (((V.getD j 0 : Int) : Rat) - v) * ((W.getD j 0 : Int) : Rat) := by
  unfold FF; rw [ps, pw, Rat.intCast_add, Rat.intCast_add, Rat.intCast_mul]; grind
def rmin (V : List Int) : Nat → Int
  | 0 => V.getD 0 0
  | k + 1 => min (V.getD (k + 1) 0) (rmin V k)
theorem rmin_anti (V : List Int) : ∀ {i d : Nat}, rmin V (i + d) ≤ rmin V i
  | i, 0 => Int.le_refl _
  | i, d + 1 => by
    have := rmin_anti V (i := i) (d := d)
    show rmin V (i + d + 1) ≤ _
    rw [rmin]; omega
theorem isFit_falling {U : List Int} (hW : ∀ i, i < n → 0 ≤ W.getD i 0) (hU : ∀ i j, i ≤ j → j < n → U.getD j 0 ≤ U.getD i 0) {k : Nat} (hk : k < n) : IsFit U W n k ((U.getD k 0 : Int) : Rat) := by
  have up : ∀ d, d ≤ k → FF U W ((U.getD k 0 : Int) : Rat) (k - d) ≤ FF U W ((U.getD k 0 : Int) : Rat) k := by
    intro d
    induction d with
    | zero => intro _; exact Rat.le_refl
    | succ d ih =>
      intro hd
      have h1 := ih (by omega)
      have e := FF_step U W ((U.getD k 0 : Int) : Rat) (k - (d + 1))
      rw [show k - (d + 1) + 1 = k - d from by omega] at e
      have h2 : ((U.getD k 0 : Int) : Rat) ≤ ((U.getD (k - (d + 1)) 0 : Int) : Rat) := Rat.intCast_le_intCast.2 (hU _ _ (by omega) hk)
      have h3 : (0 : Rat) ≤ ((W.getD (k - (d + 1)) 0 : Int) : Rat) := Rat.intCast_le_intCast.2 (hW _ (by omega))
      have := Rat.mul_nonneg (show 0 ≤ ((U.getD (k - (d + 1)) 0 : Int) : Rat) - ((U.getD k 0 : Int) : Rat) from by grind) h3
      grind
  have down : ∀ d, k + d ≤ n → FF U W ((U.getD k 0 : Int) : Rat) (k + d) ≤ FF U W ((U.getD k 0 : Int) : Rat) k := by
    intro d
    induction d with
    | zero => intro _; exact Rat.le_refl
    | succ d ih =>
      intro hd
      have h1 := ih (by omega)
      have e := FF_step U W ((U.getD k 0 : Int) : Rat) (k + d)
      have h2 : ((U.getD (k + d) 0 : Int) : Rat) ≤ ((U.getD k 0 : Int) : Rat) := Rat.intCast_le_intCast.2 (hU _ _ (by omega) (by omega))
      have h3 : (0 : Rat) ≤ ((W.getD (k + d) 0 : Int) : Rat) := Rat.intCast_le_intCast.2 (hW _ (by omega))
      have := Rat.mul_nonneg (show 0 ≤ ((U.getD k 0 : Int) : Rat) - ((U.getD (k + d) 0 : Int) : Rat) from by grind) h3
      show FF U W _ (k + d + 1) ≤ _
      grind
  refine isFit_of (p := k) (q := k + 1) (Nat.le_refl _) (Nat.lt_succ_self _) (by omega) (fun j hj => ?_) ?_
  · rcases Nat.le_total j k with h | h
    · have := up (k - j) (by omega); rwa [show k - (k - j) = j from by omega] at this
    · have := down (j - k) (by omega); rwa [show k + (j - k) = j from by omega] at this
  · rw [FF_step]; exact rle_of_eq (by grind)
/-! ## The weighted sum -/
def wfs (W : List Int) (F : Nat → Rat) : Nat → Rat
  | 0 => 0
  | i + 1 => wfs W F i + ((W.getD i 0 : Int) : Rat) * F i
theorem wfs_congr {F G : Nat → Rat} : ∀ {m : Nat}, (∀ k, k < m → F k = G k) → wfs W F m = wfs W G m
  | 0, _ => rfl
  | m + 1, h => by rw [wfs, wfs, wfs_congr (m := m) (fun k hk => h k (by omega)), h m (by omega)]
theorem wfs_const {F : Nat → Rat} {p : Nat} {c : Rat} : ∀ {z : Nat}, (∀ k, p ≤ k → k < p + z → F k = c) → wfs W F (p + z) = wfs W F p + c * ((pw W (p + z) : Rat) - (pw W p : Rat))
  | 0, _ => by show _ = wfs W F p + c * ((pw W p : Rat) - _); grind
  | z + 1, h => by
    show wfs W F (p + z + 1) = _ + c * ((pw W (p + z + 1) : Rat) - _)
    rw [wfs, pw, wfs_const (z := z) (fun k h1 h2 => h k h1 (by omega)), h (p + z) (by omega) (by omega), Rat.intCast_add]
    grind
theorem Stk.sum {F : Nat → Rat} : ∀ {S : List Blk} {m : Nat}, Stk V W S m → (∀ k, k < m → F k = (fitB S.reverse).getD k 0) → wfs W F m = (ps V W m : Rat) ∧ (fitB S.reverse).length = m
  | [], m, h, _ => by
    obtain rfl : m = 0 := h
    exact ⟨rfl, rfl⟩
  | b :: S, m, h, hF => by
    obtain ⟨p, rfl, hb, hS, _⟩ := h
    have hlen : (fitB S.reverse).length = p := by
      have : ∀ {S : List Blk} {m : Nat}, Stk V W S m → zsum S = m := by
        intro S
        induction S with
        | nil => intro m h; exact (show m = 0 from h).symm
        | cons a S ih => intro m h; obtain ⟨p, rfl, _, hS, _⟩ := h; rw [zsum_cons, ih hS]; omega
      rw [fitB_len, zsum_rev, this hS]
    have ih := (Stk.sum (F := F) hS fun k hk => by rw [hF k (by omega), fitB_snoc, List.getD_eq_getElem?_getD, List.getElem?_append_left (by omega), ← List.getD_eq_getElem?_getD]).1
    have hc : ∀ k, p ≤ k → k < p + b.z → F k = bval b := fun k h1 h2 => by
      rw [hF k h2, fitB_snoc, List.getD_eq_getElem?_getD, List.getElem?_append_right (by omega), hlen, List.getElem?_replicate, if_pos (by omega)]; rfl
    refine ⟨?_, by rw [fitB_snoc, List.length_append, List.length_replicate, hlen]⟩
    rw [wfs_const hc, ih]
    have h1 := bval_mul hb.pos
    rw [hb.s, hb.w, Rat.intCast_sub, Rat.intCast_sub] at h1
    grind
theorem fit_sum (h : chk V W = 0) : wfs W (fun k => (fitL V W).getD k 0) V.length = (ps V W V.length : Rat) := by
  obtain ⟨_, _, hok⟩ := chk_zero h
  refine (Stk.sum (S := blkR V W V.length) (stk_blkR hok (Nat.le_refl _)) fun k hk => ?_).1
  unfold fitL blkL
  rw [if_pos h]
end
end Go.Fw

/- Chapter 40: no falling list costs less than the fit; the blocks of the fit. Plain numbers, no program. -/
namespace Go.Fw
open Go Go.RowKit Go.Nat9

section
variable {V W : List Int} {n : Nat} {F G : Nat → Rat}
def cst (V W : List Int) (F : Nat → Rat) : Nat → Rat
  | 0 => 0
  | i + 1 => cst V W F i + ((W.getD i 0 : Int) : Rat) * ((((V.getD i 0 : Int) : Rat) - F i) * (((V.getD i 0 : Int) : Rat) - F i))
def sqd (W : List Int) (F G : Nat → Rat) : Nat → Rat
  | 0 => 0
  | i + 1 => sqd W F G i + ((W.getD i 0 : Int) : Rat) * ((F i - G i) * (F i - G i))
def crs (V W : List Int) (F G : Nat → Rat) : Nat → Rat
  | 0 => 0
  | i + 1 => crs V W F G i + ((W.getD i 0 : Int) : Rat) * ((((V.getD i 0 : Int) : Rat) - F i) * (F i - G i))
theorem cst_congr : ∀ {m : Nat}, (∀ k, k < m → F k = G k) → cst V W F m = cst V W G m
  | 0, _ => rfl
  | m + 1, h => by rw [cst, cst, cst_congr (m := m) (fun k hk => h k (by omega)), h m (by omega)]
theorem cst_split : ∀ m, cst V W G m = cst V W F m + sqd W F G m + 2 * crs V W F G m
  | 0 => by show (0 : Rat) = 0 + 0 + 2 * 0; grind
  | m + 1 => by rw [cst, cst, sqd, crs, cst_split m]; grind
theorem sq_nonneg (x : Rat) : 0 ≤ x * x := by
  rcases Rat.le_total (a := 0) (b := x) with h | h
  · exact Rat.mul_nonneg h h
  · have := Rat.mul_nonneg (show 0 ≤ -x from by grind) (show 0 ≤ -x from by grind)
    grind
theorem sqd_nonneg (hW : ∀ i, i < n → 0 ≤ W.getD i 0) : ∀ {m : Nat}, m ≤ n → 0 ≤ sqd W F G m
  | 0, _ => Rat.le_refl
  | m + 1, hm => by
    have h1 := sqd_nonneg hW (m := m) (by omega)
    have h2 : (0 : Rat) ≤ ((W.getD m 0 : Int) : Rat) := Rat.intCast_le_intCast.2 (hW m (by omega))
    have h3 := Rat.mul_nonneg h2 (sq_nonneg (F m - G m))
    rw [sqd]; grind
theorem sqd_zero (hW : ∀ i, i < n → 1 ≤ W.getD i 0) : ∀ {m : Nat}, m ≤ n → sqd W F G m ≤ 0 → ∀ k, k < m → F k = G k
  | 0, _, _, k, hk => absurd hk (Nat.not_lt_zero k)
  | m + 1, hm, h, k, hk => by
    have h1 := sqd_nonneg (n := n) (W := W) (F := F) (G := G) (fun i hi => by have := hW i hi; omega) (show m ≤ n from by omega)
    have h2 : (1 : Rat) ≤ ((W.getD m 0 : Int) : Rat) := Rat.intCast_le_intCast.2 (hW m (by omega))
    have h3 := sq_nonneg (F m - G m)
    have h4 := Rat.mul_nonneg (show (0 : Rat) ≤ ((W.getD m 0 : Int) : Rat) - 1 from by grind) h3
    rw [sqd] at h
    have h5 : (F m - G m) * (F m - G m) = 0 := Rat.le_antisymm (by grind) h3
    have h6 : F m = G m := by
      rcases Rat.mul_eq_zero.1 h5 with e | e <;> grind
    rcases Nat.eq_or_lt_of_le (Nat.le_of_lt_succ hk) with e | e
    · rw [e]; exact h6
    · exact sqd_zero hW (m := m) (by omega) (by grind) k e
theorem crs_block {b : Blk} {p : Nat} (hb : Loc V W b p) (hG : ∀ i j, i ≤ j → j < p + b.z → G j ≤ G i) (hF : ∀ k, p ≤ k → k < p + b.z → F k = bval b) : ∀ {d : Nat}, d < b.z →
    crs V W F G p + (FF V W (bval b) (p + d + 1) - FF V W (bval b) p) * (bval b - G (p + d)) ≤ crs V W F G (p + d + 1)
  | 0, hd => by
    simp only [Nat.add_zero]
    rw [crs, FF_step, hF p (by omega) (by omega)]
    exact rle_of_eq (by grind)
  | d + 1, hd => by
    have ih := crs_block hb hG hF (d := d) (by omega)
    have h1 := hb.beg (p + d + 1) (by omega) (by omega)
    have h2 := hG (p + d) (p + (d + 1)) (by omega) (by omega)
    have h3 := Rat.mul_nonneg (show 0 ≤ FF V W (bval b) p - FF V W (bval b) (p + d + 1) from by grind) (show 0 ≤ G (p + d) - G (p + (d + 1)) from by grind)
    rw [crs, FF_step, hF (p + (d + 1)) (by omega) (by omega)]
    rw [show p + (d + 1) = p + d + 1 from rfl] at h2 h3 ⊢
    generalize crs V W F G (p + d + 1) = c1 at *
    generalize crs V W F G p = c0 at *
    generalize FF V W (bval b) (p + d + 1) = f1 at *
    generalize FF V W (bval b) p = f0 at *
    generalize G (p + d + 1) = g1 at *
    generalize G (p + d) = g0 at *
    generalize ((W.getD (p + d + 1) 0 : Int) : Rat) = w at *
    generalize ((V.getD (p + d + 1) 0 : Int) : Rat) = v at *
    grind
theorem Stk.crs : ∀ {S : List Blk} {m : Nat}, Stk V W S m → (∀ k, k < m → F k = (fitB S.reverse).getD k 0) → (∀ i j, i ≤ j → j < m → G j ≤ G i) → 0 ≤ Go.Fw.crs V W F G m
  | [], m, h, _, _ => by
    obtain rfl : m = 0 := h
    exact Rat.le_refl
  | b :: S, m, h, hF, hG => by
    have hlen' := (Stk.sum (F := F) h hF).2
    obtain ⟨p, rfl, hb, hS, _⟩ := h
    have hlen : (fitB S.reverse).length = p := by
      rw [fitB_snoc, List.length_append, List.length_replicate] at hlen'; omega
    have ih := Stk.crs hS (fun k hk => by rw [hF k (by omega), fitB_snoc, List.getD_eq_getElem?_getD, List.getElem?_append_left (by omega), ← List.getD_eq_getElem?_getD]) (fun i j h1 h2 => hG i j h1 (by omega))
    have hc : ∀ k, p ≤ k → k < p + b.z → F k = bval b := fun k h1 h2 => by
      rw [hF k h2, fitB_snoc, List.getD_eq_getElem?_getD, List.getElem?_append_right (by omega), hlen, List.getElem?_replicate, if_pos (by omega)]; rfl
    have hz := hb.z
    have h1 := crs_block (F := F) (G := G) hb (fun i j h1 h2 => hG i j h1 h2) hc (d := b.z - 1) (by omega)
    rw [show p + (b.z - 1) + 1 = p + b.z from by omega, hb.eq] at h1
    grind
theorem fit_least (h : chk V W = 0) (hG : ∀ i j, i ≤ j → j < V.length → G j ≤ G i) :
    cst V W (fun k => (fitL V W).getD k 0) V.length ≤ cst V W G V.length ∧ (cst V W G V.length = cst V W (fun k => (fitL V W).getD k 0) V.length ↔ ∀ k, k < V.length → G k = (fitL V W).getD k 0) := by
  obtain ⟨_, _, hok⟩ := chk_zero h
  have h1 := cst_split (V := V) (W := W) (F := fun k => (fitL V W).getD k 0) (G := G) V.length
  have h2 : 0 ≤ crs V W (fun k => (fitL V W).getD k 0) G V.length := Stk.crs (S := blkR V W V.length) (stk_blkR hok (Nat.le_refl _)) (fun k _ => by unfold fitL blkL; rw [if_pos h]) hG
  have hw : ∀ i, i < V.length → 1 ≤ W.getD i 0 := fun i hi => (hok i hi).2.2.1
  have h3 := sqd_nonneg (n := V.length) (W := W) (F := fun k => (fitL V W).getD k 0) (G := G) (fun i hi => by have := hw i hi; omega) (Nat.le_refl V.length)
  refine ⟨by grind, fun e k hk => ?_, fun e => cst_congr e⟩
  exact (sqd_zero (F := fun k => (fitL V W).getD k 0) (G := G) hw (Nat.le_refl V.length) (by grind) k hk).symm
theorem fit_falls (h : chk V W = 0) {i j : Nat} (hij : i ≤ j) (hj : j < V.length) : (fitL V W).getD j 0 ≤ (fitL V W).getD i 0 := by
  obtain ⟨_, _, hok⟩ := chk_zero h
  obtain ⟨p, q, h1, h2, h3, h4, h5⟩ := fit_is h (k := i) (by omega)
  obtain ⟨p', q', a1, a2, a3, a4, a5⟩ := fit_is h hj
  have e1 := mean_ge hok (show p < q' from by omega) a3 (a5 p (by omega))
  have e2 := mean_le hok (show p < q' from by omega) a3 (h4 q' a3)
  exact Rat.le_trans e1 e2
/-! ## The blocks -/
theorem Stk.zsum : ∀ {S : List Blk} {m : Nat}, Stk V W S m → Go.Fw.zsum S = m
  | [], m, h => (show m = 0 from h).symm
  | b :: S, m, h => by
    obtain ⟨p, rfl, _, hS, _⟩ := h
    rw [zsum_cons, Stk.zsum hS]; omega
theorem Stk.nth : ∀ {S : List Blk} {m : Nat}, Stk V W S m → ∀ t, t < S.length → Loc V W (S.reverse.getD t dB) (Go.Fw.zsum (S.reverse.take t)) ∧ (0 < t → bval (S.reverse.getD t dB) < bval (S.reverse.getD (t - 1) dB))
  | [], _, _, t, ht => absurd ht (Nat.not_lt_zero t)
  | b :: S, m, h, t, ht => by
    obtain ⟨p, rfl, hb, hS, hd⟩ := h
    have ih := Stk.nth hS
    have hzs := Stk.zsum hS
    rw [List.length_cons] at ht
    have lo : ∀ j, j < S.length → (S.reverse ++ [b]).getD j dB = S.reverse.getD j dB := fun j hj => by
      rw [List.getD_eq_getElem?_getD, List.getElem?_append_left (by simpa using hj), ← List.getD_eq_getElem?_getD]
    have hi : (S.reverse ++ [b]).getD S.length dB = b := by
      rw [List.getD_eq_getElem?_getD, List.getElem?_append_right (by simp)]; simp
    rw [List.reverse_cons]
    rcases Nat.lt_or_ge t S.length with h1 | h1
    · rw [lo t h1, lo (t - 1) (by omega), List.take_append_of_le_length (by simp; omega)]
      exact ih t h1
    · obtain rfl : t = S.length := by omega
      rw [hi, List.take_append_of_le_length (by simp), List.take_of_length_le (by simp), zsum_rev, hzs]
      refine ⟨hb, fun h0 => ?_⟩
      rw [lo (S.length - 1) (by omega)]
      cases S with
      | nil => exact absurd h0 (Nat.lt_irrefl 0)
      | cons a S =>
        have := hd a rfl
        rw [List.length_cons, Nat.add_sub_cancel, List.reverse_cons, List.getD_eq_getElem?_getD, List.getElem?_append_right (by simp)]
        simpa using this
theorem fitB_nth (B : List Blk) {t i : Nat} (ht : t < B.length) (h1 : zsum (B.take t) ≤ i) (h2 : i < zsum (B.take t) + (B.getD t dB).z) : (fitB B).getD i 0 = bval (B.getD t dB) := by
  have e : fitB B = fitB (B.take t) ++ (List.replicate (B.getD t dB).z (bval (B.getD t dB)) ++ fitB (B.drop (t + 1))) := by
    have : fitB (B.take (t + 1) ++ B.drop (t + 1)) = fitB (B.take (t + 1)) ++ fitB (B.drop (t + 1)) := by unfold fitB; exact List.flatMap_append
    rw [List.take_append_drop] at this
    rw [this, ← List.append_assoc]
    congr 1
    exact fitB_take B t ht
  rw [e, List.getD_eq_getElem?_getD, List.getElem?_append_right (by rw [fitB_len]; exact h1), List.getElem?_append_left (by rw [fitB_len, List.length_replicate]; omega), List.getElem?_replicate, if_pos (by rw [fitB_len]; omega)]
  rfl
/-- where block t begins -/
def bg (V W : List Int) (t : Nat) : Nat := zsum ((blkL V W).take t)
theorem bg_zero : bg V W 0 = 0 := rfl
theorem bg_end (h : chk V W = 0) : bg V W (blkL V W).length = V.length := by unfold bg; rw [List.take_of_length_le (Nat.le_refl _)]; exact zsum_blkL h
structure BlockAt (V W : List Int) (t : Nat) : Prop where
  lt : bg V W t < bg V W (t + 1)
  le : bg V W (t + 1) ≤ V.length
  part : ∀ i, bg V W t ≤ i → i < bg V W (t + 1) → meanq V W (bg V W t) (i + 1) ≤ meanq V W (bg V W t) (bg V W (t + 1)) ∧ (fitL V W).getD i 0 = meanq V W (bg V W t) (bg V W (t + 1))
  fall : 0 < t → 0 < bg V W t ∧ (fitL V W).getD (bg V W t) 0 < (fitL V W).getD (bg V W t - 1) 0
theorem bg_succ {t : Nat} (ht : t < (blkL V W).length) : bg V W (t + 1) = bg V W t + ((blkL V W).getD t dB).z := by
  have := stB_succ (blkL V W) t ht
  unfold stB at this
  unfold bg
  omega
theorem block_at (h : chk V W = 0) {t : Nat} (ht : t < (blkL V W).length) : BlockAt V W t := by
  obtain ⟨_, _, hok⟩ := chk_zero h
  have hst := stk_blkR hok (Nat.le_refl V.length)
  have hlen : (blkL V W).length = (blkR V W V.length).length := by rw [blkL, List.length_reverse]
  have hfit : fitL V W = fitB (blkL V W) := if_pos h
  have loc : ∀ s, s < (blkL V W).length → Loc V W ((blkL V W).getD s dB) (bg V W s) ∧ (0 < s → bval ((blkL V W).getD s dB) < bval ((blkL V W).getD (s - 1) dB)) := fun s hs => Stk.nth hst s (by omega)
  have hle : ∀ s, s < (blkL V W).length → bg V W (s + 1) ≤ V.length := fun s hs => by
    have := zsum_take (blkL V W) hs
    rw [zsum_blkL h] at this
    rw [bg_succ hs]; unfold bg; exact this
  have val : ∀ s, s < (blkL V W).length → ∀ i, bg V W s ≤ i → i < bg V W (s + 1) → (fitL V W).getD i 0 = bval ((blkL V W).getD s dB) := fun s hs i h1 h2 => by
    rw [hfit]; rw [bg_succ hs] at h2; exact fitB_nth _ hs h1 h2
  obtain ⟨hL, hD⟩ := loc t ht
  have hz := hL.z
  have hs := bg_succ ht
  have hn := hle t ht
  have hmean : meanq V W (bg V W t) (bg V W (t + 1)) = bval ((blkL V W).getD t dB) := by
    unfold meanq bval
    rw [vsum_ps, wsum_pw, hs, show bg V W t + ((blkL V W).getD t dB).z - bg V W t = ((blkL V W).getD t dB).z from by omega, ← hL.s, ← hL.w]
  refine ⟨by omega, hn, fun i h1 h2 => ?_, fun h0 => ?_⟩
  · rw [hmean]
    exact ⟨mean_le hok (by omega) (by omega) (hL.beg (i + 1) (by omega) (by omega)), val t ht i h1 h2⟩
  · have hp := bg_succ (V := V) (W := W) (t := t - 1) (by omega)
    have hzp := (loc (t - 1) (by omega)).1.z
    rw [show t - 1 + 1 = t from by omega] at hp
    refine ⟨by omega, ?_⟩
    rw [val t ht _ (Nat.le_refl _) (by omega), val (t - 1) (by omega) (bg V W t - 1) (by omega) (by rw [show t - 1 + 1 = t from by omega]; omega)]
    exact hD h0
theorem begL_bg (h : chk V W = 0) : begL V W = (List.range (blkL V W).length).map fun t => ((bg V W t : Nat) : Int) := if_pos h
theorem bg_mono (h : chk V W = 0) {s t : Nat} (hst : s < t) (ht : t ≤ (blkL V W).length) : bg V W s < bg V W t := by
  obtain ⟨d, rfl⟩ := Nat.exists_eq_add_of_lt hst
  clear hst
  induction d with
  | zero => exact (block_at h (t := s) (by omega)).lt
  | succ d ih =>
    have h1 := ih (by omega)
    have h2 := (block_at h (t := s + d + 1) (by omega)).lt
    rw [show s + (d + 1) + 1 = s + d + 1 + 1 from by omega]
    omega
end
end Go.Fw

/- Chapter 40: the lists that the laws make; elements of lists in memory. -/
namespace Go.Fw
open Go Go.RowKit Go.Nat9

section
variable {P : Program} {Q : Exit → Act → World → Prop} {w0 : Ctx} {σ : List Res} {φ : List (Bool × VP)} {fr : Fr} {c : Code}
theorem JC_fesGet {f : Bool} {l : List Fe} (x : Fe) (h : (f, vFes l) ∈ φ) (hx : x ∈ l)
    (k : JC P c Q w0 σ ((f, vCells x.ad (u32s (fnum (some x.q)))) :: (f, vCells x.be (u32s (fden (some x.q)))) :: φ) fr) : JC P c Q w0 σ φ fr := by
  refine JC_addView (p := vCells x.be (u32s (fden (some x.q)))) (f := f) (fun w s => (s.views _ h x hx).2) ?_
  refine JC_addView (p := vCells x.ad (u32s (fnum (some x.q)))) (f := f) (fun w s => ?_) k
  exact (s.views (f, vFes l) (List.mem_cons_of_mem _ h) x hx).1
end
def zf : Nat → Int := fun _ => 0
theorem fillZ (f : Nat → Int) (n : Nat) : fillL f zf n 0 = List.replicate n 0 := fillL_zero f n
theorem fitL_len {V W : List Int} (h : chk V W = 0) : (fitL V W).length = V.length := (fitL_ok h).1
theorem fes_flen {V W : List Int} {l : List Fe} (h : chk V W = 0) (hl : l.map (·.q) = fitL V W) : l.length = V.length := by
  have := congrArg List.length hl
  rw [List.length_map, fitL_len h] at this
  exact this
theorem fes_fqs {V W : List Int} {l : List Fe} (hl : l.map (·.q) = fitL V W) (j : Nat) : qs (l.getD j dF).q 3 := fes_qs (hl.trans (fitL_rfit V W)) j
theorem fes_fq {V W : List Int} {l : List Fe} (hl : l.map (·.q) = fitL V W) (j : Nat) : (l.getD j dF).q = (fitL V W).getD j 0 := by rw [← map_getD, hl]
theorem ofq_one (n : Int) : ofq n 1 = (n : Rat) := by rw [ofq_eq]; show (n : Rat) / 1 = _; grind
theorem qs_int {n : Int} (h : n.natAbs < 1000000000 ^ 3) : qs (ofq n 1) 3 := qs_ofq n 1 h (by decide)
section
variable {V W : List Int}
/-! ## Turned round -/
def turnX (V : List Int) (k : Nat) : Int := - V.getD (V.length - 1 - k) 0
def turnY (V W : List Int) (k : Nat) : Int := W.getD (V.length - 1 - k) 0
def turnXL (V : List Int) : List Int := (List.range V.length).map (turnX V)
def turnYL (V W : List Int) : List Int := (List.range V.length).map (turnY V W)
theorem turnXL_len (V : List Int) : (turnXL V).length = V.length := mr_len _ _
theorem turnYL_len (V W : List Int) : (turnYL V W).length = V.length := mr_len _ _
theorem turn_chk (h : chk V W = 0) : chk (turnXL V) (turnYL V W) = 0 := by
  obtain ⟨hn, _, hok⟩ := chk_zero h
  refine chk_ok (by rw [turnXL_len]; exact hn) (by rw [turnXL_len, turnYL_len]) fun i hi => ?_
  rw [turnXL_len] at hi
  obtain ⟨h1, h2, h3, h4⟩ := hok (V.length - 1 - i) (by omega)
  unfold okAt turnXL turnYL
  rw [mr_get _ _ hi, mr_get _ _ hi]
  unfold turnX turnY
  exact ⟨by omega, by omega, h3, h4⟩
theorem turn_fit (h : chk V W = 0) {j : Nat} (hj : j < V.length) : (fitL (turnXL V) (turnYL V W)).getD (V.length - 1 - j) 0 = -(fitL V W).getD j 0 := by
  have h1 := isFit_turn (X := turnXL V) (Y := turnYL V W) (fun i hi => mr_get _ _ hi) (fun i hi => mr_get _ _ hi) (fit_is h hj)
  refine fit_eq (turn_chk h) (by rw [turnXL_len]; omega) ?_
  rw [turnXL_len]; exact h1
/-! ## Moved -/
def clp (lo hi n : Int) : Int := if lo < (if hi < n then hi else n) then (if hi < n then hi else n) else lo
theorem clp_in {lo hi : Int} (n : Int) (h : lo ≤ hi) : lo ≤ clp lo hi n ∧ clp lo hi n ≤ hi := by unfold clp; split <;> split <;> omega
def mvX (V : List Int) (k : Nat) : Int := clp (-90000) 90000 (V.getD k 0)
def mvY (V : List Int) (c d : Int) (k : Nat) : Int := c * mvX V k + d
def mvXL (V : List Int) : List Int := (List.range V.length).map (mvX V)
def mvYL (V : List Int) (c d : Int) : List Int := (List.range V.length).map (mvY V c d)
theorem mvXL_len (V : List Int) : (mvXL V).length = V.length := mr_len _ _
theorem mvYL_len (V : List Int) (c d : Int) : (mvYL V c d).length = V.length := mr_len _ _
theorem mvX_in (V : List Int) (k : Nat) : -90000 ≤ mvX V k ∧ mvX V k ≤ 90000 := clp_in _ (by decide)
theorem mvY_in (V : List Int) {c : Int} (hc : 0 ≤ c) (hc2 : c ≤ 9) (k : Nat) : -810000 ≤ c * mvX V k ∧ c * mvX V k ≤ 810000 := by
  have := mvX_in V k
  have := mul_in (A := 90000) (B := 9) this.1 this.2 hc hc2 (by decide)
  rw [Int.mul_comm]; omega
theorem mvX_chk (h : chk V W = 0) : chk (mvXL V) W = 0 := by
  obtain ⟨hn, hv, hok⟩ := chk_zero h
  refine chk_ok (by rw [mvXL_len]; exact hn) (by rw [mvXL_len]; exact hv) fun i hi => ?_
  rw [mvXL_len] at hi
  obtain ⟨h1, h2, h3, h4⟩ := hok i hi
  have := mvX_in V i
  unfold okAt mvXL
  rw [mr_get _ _ hi]
  exact ⟨by omega, by omega, h3, h4⟩
theorem mvY_chk (h : chk V W = 0) {c d : Int} (hc : 0 ≤ c) (hc2 : c ≤ 9) (hd : -1000 ≤ d) (hd2 : d ≤ 1000) : chk (mvYL V c d) W = 0 := by
  obtain ⟨hn, hv, hok⟩ := chk_zero h
  refine chk_ok (by rw [mvYL_len]; exact hn) (by rw [mvYL_len]; exact hv) fun i hi => ?_
  rw [mvYL_len] at hi
  obtain ⟨h1, h2, h3, h4⟩ := hok i hi
  have := mvY_in V hc hc2 i
  unfold okAt mvYL
  rw [mr_get _ _ hi]
  unfold mvY
  exact ⟨by omega, by omega, h3, h4⟩
theorem mv_fit (h : chk V W = 0) {c d : Int} (hc : 0 ≤ c) (hc2 : c ≤ 9) (hd : -1000 ≤ d) (hd2 : d ≤ 1000) {j : Nat} (hj : j < V.length) :
    (fitL (mvYL V c d) W).getD j 0 = (fitL (mvXL V) W).getD j 0 * ofq c 1 + ofq d 1 := by
  rw [ofq_one, ofq_one]
  have h1 := fit_is (mvX_chk h) (k := j) (by rw [mvXL_len]; exact hj)
  rw [mvXL_len] at h1
  have h2 := isFit_move (X := mvYL V c d) (c := c) (d := d) hc (fun i hi => by unfold mvYL mvXL; rw [mr_get _ _ hi, mr_get _ _ hi]; rfl) h1
  refine fit_eq (mvY_chk h hc hc2 hd hd2) (by rw [mvYL_len]; exact hj) ?_
  rw [mvYL_len]; exact h2
theorem mod_neg {a b : Int} (hb : 0 < b) (h : a.tmod b < 0) : a.tmod b + b = a % b := by
  rw [Int.tmod_eq_emod] at h ⊢
  have h0 := Int.emod_nonneg a (Int.ne_of_gt hb)
  split at h
  · omega
  · rename_i h1
    rw [if_neg h1]
    have : (b.natAbs : Int) = b := by omega
    rw [this]; omega
theorem mod_pos {a b : Int} (hb : 0 < b) (h : ¬ a.tmod b < 0) : a.tmod b = a % b := by
  rw [Int.tmod_eq_emod] at h ⊢
  have h0 := Int.emod_nonneg a (Int.ne_of_gt hb)
  have h2 := Int.emod_lt_of_pos a hb
  split
  · omega
  · rename_i h1
    rw [if_neg h1] at h
    have : (b.natAbs : Int) = b := by omega
    rw [this] at h; omega
theorem tmod_in {a b : Int} (hb : 0 < b) : -b ≤ a.tmod b ∧ a.tmod b < b := by
  have h2 := Int.emod_lt_of_pos a hb
  have h0 := Int.emod_nonneg a (Int.ne_of_gt hb)
  rcases Int.lt_or_le (a.tmod b) 0 with h | h
  · have := mod_neg hb h; omega
  · have := mod_pos (a := a) hb (by omega); omega
/-! ## The running least -/
def own0 (V : List Int) : Nat → Int := fun k => V.getD k 0
def rmL (V : List Int) : List Int := (List.range V.length).map (rmin V)
theorem rmL_len (V : List Int) : (rmL V).length = V.length := mr_len _ _
theorem rmin_in {n : Nat} (h : ∀ i, i < n → -1000000 ≤ V.getD i 0 ∧ V.getD i 0 ≤ 1000000) : ∀ {k : Nat}, k < n → -1000000 ≤ rmin V k ∧ rmin V k ≤ 1000000
  | 0, hk => h 0 hk
  | k + 1, hk => by
    have h1 := h (k + 1) hk
    have h2 := rmin_in h (k := k) (by omega)
    rw [rmin]; omega
theorem rm_chk (h : chk V W = 0) : chk (rmL V) W = 0 := by
  obtain ⟨hn, hv, hok⟩ := chk_zero h
  refine chk_ok (by rw [rmL_len]; exact hn) (by rw [rmL_len]; exact hv) fun i hi => ?_
  rw [rmL_len] at hi
  obtain ⟨_, _, h3, h4⟩ := hok i hi
  have := rmin_in (V := V) (n := V.length) (fun i hi => by obtain ⟨a, b, _, _⟩ := hok i hi; exact ⟨a, b⟩) hi
  unfold okAt rmL
  rw [mr_get _ _ hi]
  exact ⟨by omega, by omega, h3, h4⟩
theorem rm_fit (h : chk V W = 0) {j : Nat} (hj : j < V.length) : (fitL (rmL V) W).getD j 0 = ofq (rmin V j) 1 := by
  obtain ⟨_, _, hok⟩ := chk_zero h
  rw [ofq_one]
  have e : (rmL V).getD j 0 = rmin V j := mr_get _ _ hj
  have h1 := isFit_falling (n := V.length) (W := W) (U := rmL V) (fun i hi => by have := (hok i hi).2.2.1; omega) (fun i k h1 h2 => by
    unfold rmL
    rw [mr_get _ _ h2, mr_get _ _ (by omega)]
    obtain ⟨d, rfl⟩ := Nat.exists_eq_add_of_le h1
    exact rmin_anti V) hj
  rw [e] at h1
  refine fit_eq (rm_chk h) (by rw [rmL_len]; exact hj) ?_
  rw [rmL_len]; exact h1
theorem own0_start (V : List Int) : fillL (rmin V) (own0 V) V.length 0 = V := fillL_start (rmin V) V
theorem rmL_first (V : List Int) {i : Nat} (h : i = 0) : fillL (rmin V) (own0 V) V.length i = fillL (rmin V) (own0 V) V.length (i + 1) := by
  subst h
  unfold fillL
  refine mr_congr fun k _ => ?_
  rw [if_neg (Nat.not_lt_zero k)]
  split
  · rename_i h; rw [show k = 0 from by omega]; rfl
  · rfl
theorem rmL_step (V : List Int) {i : Nat} (h : 0 < i) : (fillL (rmin V) (own0 V) V.length i).set i (if rmin V (i - 1) < V.getD i 0 then rmin V (i - 1) else V.getD i 0) = fillL (rmin V) (own0 V) V.length (i + 1) := by
  rw [← fillL_set]
  congr 1
  obtain ⟨k, rfl⟩ : ∃ k, i = k + 1 := ⟨i - 1, by omega⟩
  rw [rmin, Nat.add_sub_cancel]
  split <;> omega
/-! ## The blocks' beginnings -/
theorem begL_len (h : chk V W = 0) : (begL V W).length = (blkL V W).length := by rw [begL_bg h, mr_len]
theorem begL_get (h : chk V W = 0) {t : Nat} (ht : t < (blkL V W).length) : (begL V W).getD t 0 = ((bg V W t : Nat) : Int) := by rw [begL_bg h, mr_get _ _ ht]
theorem blkL_le (h : chk V W = 0) : (blkL V W).length ≤ V.length := by
  have := (bnd_blkL h).len
  rw [blkL, List.length_reverse]; exact this
theorem blkL_nil (h : chk V W = 0) : (blkL V W).length = 0 ↔ V.length = 0 := by
  have h1 := bg_end h
  constructor
  · intro h0; rw [h0] at h1; exact h1.symm
  · intro h0
    have := blkL_le h
    omega
theorem begL_asc (h : chk V W = 0) : (∀ k, k < (begL V W).length → 0 ≤ (begL V W).getD k 0 ∧ (begL V W).getD k 0 ≤ (V.length : Int) - 1) ∧ ∀ k, 0 < k → k < (begL V W).length → (begL V W).getD (k - 1) 0 < (begL V W).getD k 0 := by
  have hl := begL_len h
  refine ⟨fun k hk => ?_, fun k h0 hk => ?_⟩
  · rw [begL_get h (by omega)]
    have h1 := (block_at h (t := k) (by omega)).lt
    have h2 := (block_at h (t := k) (by omega)).le
    omega
  · rw [begL_get h (by omega), begL_get h (by omega)]
    have := bg_mono h (s := k - 1) (t := k) (by omega) (by omega)
    omega
/-! ## A place parted -/
def partX (V : List Int) (k : Nat) : List Int := V.take k ++ [V.getD k 0] ++ V.drop k
def partY (W : List Int) (k : Nat) : List Int := W.take k ++ [(W.getD k 0).tdiv 2, W.getD k 0 - (W.getD k 0).tdiv 2] ++ W.drop (k + 1)
theorem partX_len (V : List Int) {k : Nat} (hk : k < V.length) : (partX V k).length = V.length + 1 := by unfold partX; simp; omega
theorem partY_len (W : List Int) {k : Nat} (hk : k < W.length) : (partY W k).length = W.length + 1 := by unfold partY; simp; omega
theorem partX_get (V : List Int) {k i : Nat} (hk : k < V.length) : (partX V k).getD i 0 = V.getD (if i ≤ k then i else i - 1) 0 := by
  unfold partX
  rw [List.getD_eq_getElem?_getD]
  rcases Nat.lt_or_ge i k with h | h
  · rw [if_pos (by omega), List.append_assoc, List.getElem?_append_left (by simp; omega), List.getElem?_take, if_pos h, ← List.getD_eq_getElem?_getD]
  · rcases Nat.eq_or_lt_of_le h with h | h
    · subst h
      rw [if_pos (Nat.le_refl _), List.append_assoc, List.getElem?_append_right (by rw [List.length_take]; omega), List.length_take, Nat.min_eq_left (by omega), Nat.sub_self]
      rfl
    · rw [if_neg (by omega), List.getElem?_append_right (by simp; omega), List.getElem?_drop, List.getD_eq_getElem?_getD]
      congr 2
      simp; omega
theorem partY_get (W : List Int) {k i : Nat} (hk : k < W.length) : (partY W k).getD i 0 = if i < k then W.getD i 0 else if i = k then (W.getD k 0).tdiv 2 else if i = k + 1 then W.getD k 0 - (W.getD k 0).tdiv 2 else W.getD (i - 1) 0 := by
  unfold partY
  rw [List.getD_eq_getElem?_getD]
  rcases Nat.lt_or_ge i k with h | h
  · rw [if_pos h, List.append_assoc, List.getElem?_append_left (by simp; omega), List.getElem?_take, if_pos h, ← List.getD_eq_getElem?_getD]
  · rw [if_neg (by omega)]
    rcases Nat.eq_or_lt_of_le h with h | h
    · subst h
      rw [if_pos rfl, List.append_assoc, List.getElem?_append_right (by rw [List.length_take]; omega), List.length_take, Nat.min_eq_left (by omega), Nat.sub_self]
      rfl
    · rw [if_neg (by omega)]
      rcases Nat.eq_or_lt_of_le h with h | h
      · subst h
        rw [if_pos rfl, List.append_assoc, List.getElem?_append_right (by rw [List.length_take]; omega), List.length_take, Nat.min_eq_left (by omega), show k.succ - k = 1 from by omega]
        rfl
      · rw [if_neg (by omega), List.getElem?_append_right (by simp; omega), List.getElem?_drop, List.getD_eq_getElem?_getD]
        congr 2
        simp; omega
theorem half_in {a : Int} (h : 2 ≤ a) (h2 : a ≤ 1000) : 1 ≤ a.tdiv 2 ∧ 1 ≤ a - a.tdiv 2 ∧ a.tdiv 2 ≤ 1000 ∧ a - a.tdiv 2 ≤ 1000 := by
  rw [Int.tdiv_eq_ediv_of_nonneg (by omega)]
  omega
theorem part_chk (h : chk V W = 0) {k : Nat} (hk : k < V.length) (h2 : 2 ≤ W.getD k 0) (h23 : V.length ≤ 23) : chk (partX V k) (partY W k) = 0 := by
  obtain ⟨hn, hv, hok⟩ := chk_zero h
  have hkw : k < W.length := by omega
  obtain ⟨a1, a2, a3, a4⟩ := half_in h2 (hok k hk).2.2.2
  refine chk_ok (by rw [partX_len V hk]; omega) (by rw [partX_len V hk, partY_len W hkw]; omega) fun i hi => ?_
  rw [partX_len V hk] at hi
  have h0 := hok (if i ≤ k then i else i - 1) (by split <;> omega)
  unfold okAt
  rw [partX_get V hk, partY_get W hkw]
  refine ⟨h0.1, h0.2.1, ?_, ?_⟩
  · split
    · exact (hok i (by omega)).2.2.1
    · split
      · omega
      · split
        · omega
        · exact (hok (i - 1) (by omega)).2.2.1
  · split
    · exact (hok i (by omega)).2.2.2
    · split
      · omega
      · split
        · omega
        · exact (hok (i - 1) (by omega)).2.2.2
theorem part_fit (h : chk V W = 0) {k : Nat} (hk : k < V.length) (h2 : 2 ≤ W.getD k 0) (h23 : V.length ≤ 23) {i : Nat} (hi : i < V.length + 1) : (fitL (partX V k) (partY W k)).getD i 0 = (fitL V W).getD (if i ≤ k then i else i - 1) 0 := by
  obtain ⟨hn, hv, hok⟩ := chk_zero h
  have hkw : k < W.length := by omega
  obtain ⟨a1, a2, _, _⟩ := half_in h2 (hok k hk).2.2.2
  have h1 := isFit_part (n := V.length) (V := V) (W := W) (X := partX V k) (Y := partY W k) (k := k) (a := (W.getD k 0).tdiv 2) (b := W.getD k 0 - (W.getD k 0).tdiv 2) (fun i _ => partX_get V hk) (fun i _ => partY_get W hkw) (by omega) (by omega) (by omega) hk (i := i)
    (fit_is h (k := if i ≤ k then i else i - 1) (by split <;> omega))
  refine fit_eq (part_chk h hk h2 h23) (by rw [partX_len V hk]; exact hi) ?_
  rw [partX_len V hk]; exact h1
end
end Go.Fw

/- Chapter 40: cost, comparison with the fit. Plain. -/
namespace Go.Fw
open Go Go.RowKit Go.Nat9

section
variable {V W : List Int}
def lq (l : List Fi) (k : Nat) : Rat := (l.getD k dI).q
def costE (V W : List Int) (n : Nat) : Int := if chk V W ≠ 0 then chk V W else if n ≠ V.length then 2 else 0
def costV (V W : List Int) (l : List Fi) : Rat := cst V W (lq l) V.length
def costO (V W : List Int) (l : List Fi) : Option Rat := if costE V W l.length = 0 then some (costV V W l) else none
theorem costE_chk {n : Nat} (h : chk V W ≠ 0) : costE V W n = chk V W := if_pos h
theorem costE_len {n : Nat} (h : chk V W = 0) (hn : n ≠ V.length) : costE V W n = 2 := by unfold costE; rw [if_neg (fun e => e h), if_pos hn]
theorem costE_ok {n : Nat} (h : chk V W = 0) (hn : n = V.length) : costE V W n = 0 := by unfold costE; rw [if_neg (fun e => e h), if_neg (fun e => e hn)]
theorem costO_no {l : List Fi} (h : costE V W l.length ≠ 0) : costO V W l = none := if_neg h
theorem costO_ok {l : List Fi} (h : costE V W l.length = 0) : costO V W l = some (costV V W l) := if_pos h
theorem qs_cst {F : Nat → Rat} {n : Nat} (hV : ∀ i, i < n → -1000000 ≤ V.getD i 0 ∧ V.getD i 0 ≤ 1000000) (hW : ∀ i, i < n → 1 ≤ W.getD i 0 ∧ W.getD i 0 ≤ 1000) (hF : ∀ i, i < n → qs (F i) 5) : ∀ {m : Nat}, m ≤ n → qs (cst V W F m) (22 * m + 4)
  | 0, _ => qs_zero.mono (by decide)
  | m + 1, hm => by
    have ih := qs_cst hV hW hF (m := m) (by omega)
    have h1 : qs ((V.getD m 0 : Int) : Rat) 3 := by rw [← ofq_one]; exact qs_int (by have := hV m (by omega); omega)
    have h2 : qs ((W.getD m 0 : Int) : Rat) 3 := by rw [← ofq_one]; exact qs_int (by have := hW m (by omega); omega)
    have h3 : qs (((V.getD m 0 : Int) : Rat) - F m) 9 := h1.sub (hF m (by omega)) (by decide)
    rw [cst]
    exact ih.add (h2.mul (h3.mul h3 (Nat.le_refl 18)) (Nat.le_refl 21)) (by omega)
theorem fi_qs {x : Fi} (h : x.ok 4) : qs x.q 5 := h.qs
theorem qs_cost {l : List Fi} (hl : ∀ x ∈ l, x.ok 4) (h : chk V W = 0) (hn : l.length = V.length) : qs (costV V W l) 600 := by
  obtain ⟨h1, _, hok⟩ := chk_zero h
  refine (qs_cst (n := V.length) (fun i hi => ?_) (fun i hi => ?_) (fun i hi => fi_qs (hl _ (fi_mem (by omega)))) (Nat.le_refl _)).mono (by omega)
  · obtain ⟨a, b, _, _⟩ := hok i hi; exact ⟨a, b⟩
  · obtain ⟨_, _, a, b⟩ := hok i hi; exact ⟨a, b⟩
theorem qs_costO {l : List Fi} (hl : ∀ x ∈ l, x.ok 4) : qs (fval (costO V W l)) 1000000000 := by
  unfold costO
  split
  · rename_i h
    unfold costE at h
    split at h
    · contradiction
    · rename_i hc
      split at h
      · cases h
      · rename_i hn
        exact (qs_cost hl (Classical.byContradiction hc) (Classical.byContradiction hn)).mono (by decide)
  · exact qs_zero.mono (by decide)
theorem fi_few {l : List Fi} (hr : ∀ x ∈ l, x.raw) (h : ∀ i, i < l.length → (l.getD i dI).n ≤ 3 ∧ (l.getD i dI).m ≤ 3) : ∀ x ∈ l, x.ok 4 := by
  intro x hx
  obtain ⟨j, hj, rfl⟩ := List.mem_iff_getElem.1 hx
  have e := h j hj
  rw [List.getD_eq_getElem?_getD, List.getElem?_eq_getElem hj] at e
  exact Fi.fin (hr _ hx) (Nat.le_trans e.1 (by decide)) (Nat.le_trans e.2 (by decide))
theorem fes_nil {l : List Fe} (h : chk V W ≠ 0) (hl : l.map (·.q) = fitL V W) : l.length = 0 := by
  have := congrArg List.length hl
  rw [List.length_map, fitL, if_neg h] at this
  exact this
/-- a list against the fit -/
def chkE (V W : List Int) (l : List Fi) : Int := if chk V W ≠ 0 then chk V W else if l.length ≠ V.length then 2 else if ∀ i, i < V.length → lq l i = (fitL V W).getD i 0 then 0 else 9
theorem chkE_chk {l : List Fi} (h : chk V W ≠ 0) : chkE V W l = chk V W := if_pos h
theorem chkE_len {l : List Fi} (h : chk V W = 0) (hn : l.length ≠ V.length) : chkE V W l = 2 := by unfold chkE; rw [if_neg (fun e => e h), if_pos hn]
theorem chkE_eq {l : List Fi} (h : chk V W = 0) (hn : l.length = V.length) (hq : ∀ i, i < V.length → lq l i = (fitL V W).getD i 0) : chkE V W l = 0 := by unfold chkE; rw [if_neg (fun e => e h), if_neg (fun e => e hn), if_pos hq]
theorem chkE_ne {l : List Fi} (h : chk V W = 0) (hn : l.length = V.length) {i : Nat} (hi : i < V.length) (hq : lq l i ≠ (fitL V W).getD i 0) : chkE V W l = 9 := by unfold chkE; rw [if_neg (fun e => e h), if_neg (fun e => e hn), if_neg (fun e => hq (e i hi))]
theorem chkE_zero {l : List Fi} (h : chk V W = 0) (hn : l.length = V.length) : chkE V W l = 0 ↔ ∀ i, i < V.length → lq l i = (fitL V W).getD i 0 := by
  constructor
  · intro e i hi
    refine Classical.byContradiction fun hc => ?_
    rw [chkE_ne h hn hi hc] at e; cases e
  · exact chkE_eq h hn
theorem lq_fi {l : List Fe} (hl : l.map (·.q) = fitL V W) {k : Nat} (hk : k < l.length) : lq (l.map Fe.fi) k = (fitL V W).getD k 0 := by
  unfold lq
  rw [fi_getD l hk, Fe.fi_q (fes_fqs hl k), fes_fq hl]
theorem fi_all {l : List Fe} (hl : l.map (·.q) = fitL V W) : ∀ x ∈ l.map Fe.fi, x.ok 4 := by
  intro x hx
  obtain ⟨y, hy, rfl⟩ := List.mem_map.1 hx
  obtain ⟨j, hj, rfl⟩ := List.mem_iff_getElem.1 hy
  have h := fes_fqs hl j
  rw [List.getD_eq_getElem?_getD, List.getElem?_eq_getElem hj] at h
  have h' : qs (l[j]).q 4 := h.mono (by decide)
  have e := Fe.fi_q h'
  unfold Fi.ok
  rw [e]; exact Fe.fi_ok h'
theorem costV_fi (h : chk V W = 0) {l : List Fe} (hl : l.map (·.q) = fitL V W) : costV V W (l.map Fe.fi) = cst V W (fun k => (fitL V W).getD k 0) V.length :=
  cst_congr fun k hk => lq_fi hl (by rw [fes_flen h hl]; exact hk)
theorem fit_Falls (h : chk V W = 0) {l : List Fe} (hl : l.map (·.q) = fitL V W) : Falls (l.map Fe.fi) := by
  intro i hi
  rw [List.length_map] at hi
  have e1 := lq_fi hl (k := i + 1) (by omega)
  have e2 := lq_fi hl (k := i) (by omega)
  unfold lq at e1 e2
  rw [e1, e2]
  have := fes_flen h hl
  exact fit_falls h (by omega) (by omega)
theorem least_le (h : chk V W = 0) {m : List Fi} (hn : m.length = V.length) (hf : Falls m) : cst V W (fun k => (fitL V W).getD k 0) V.length ≤ costV V W m ∧ (costV V W m = cst V W (fun k => (fitL V W).getD k 0) V.length ↔ chkE V W m = 0) := by
  have := fit_least h (G := lq m) (fun i j h1 h2 => by
    obtain ⟨d, rfl⟩ := Nat.exists_eq_add_of_le h1
    exact hf.le (by omega))
  exact ⟨this.1, this.2.trans (chkE_zero h hn).symm⟩
end
end Go.Fw
