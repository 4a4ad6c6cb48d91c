/- Chapter 40: the pooled values are the least of the greatest means. Plain numbers, no program. -/
import Derived.Test.YtgfldmhpindbpaaDoorIsoA
namespace Go.Fw
open Go Go.RowKit Go.Nat9

/-! ## Sums from the beginning -/
def ps (V W : List Int) : Nat → Int
  | 0 => 0
  | j + 1 => ps V W j + V.getD j 0 * W.getD j 0
def pw (W : List Int) : Nat → Int
  | 0 => 0
  | j + 1 => pw W j + W.getD j 0
theorem vsum_ps (V W : List Int) (i : Nat) : ∀ k, vsum V W i k = ps V W (i + k) - ps V W i
  | 0 => by rw [vsum, Nat.add_zero]; omega
  | k + 1 => by rw [vsum, vsum_ps V W i k, show i + (k + 1) = (i + k) + 1 from rfl, ps]; omega
theorem wsum_pw (W : List Int) (i : Nat) : ∀ k, wsum W i k = pw W (i + k) - pw W i
  | 0 => by rw [wsum, Nat.add_zero]; omega
  | k + 1 => by rw [wsum, wsum_pw W i k, show i + (k + 1) = (i + k) + 1 from rfl, pw]; omega
theorem rle_of_eq {a b : Rat} (h : a = b) : a ≤ b := h ▸ Rat.le_refl
variable {V W : List Int} {n : Nat}
theorem pw_le (h : okTo V W n) {i : Nat} : ∀ {k : Nat}, i + k ≤ n → pw W i + (k : Int) ≤ pw W (i + k)
  | 0, _ => by simp
  | k + 1, hk => by
    have h1 := pw_le h (i := i) (k := k) (by omega)
    obtain ⟨_, _, a3, _⟩ := h (i + k) (by omega)
    rw [show i + (k + 1) = (i + k) + 1 from rfl, pw]
    push_cast
    omega
theorem pw_mono (h : okTo V W n) {i j : Nat} (hij : i ≤ j) (hj : j ≤ n) : pw W i ≤ pw W j := by
  obtain ⟨k, rfl⟩ := Nat.exists_eq_add_of_le hij
  have := pw_le h (i := i) (k := k) hj
  omega
theorem pw_lt (h : okTo V W n) {i j : Nat} (hij : i < j) (hj : j ≤ n) : pw W i < pw W j := by
  obtain ⟨k, rfl⟩ := Nat.exists_eq_add_of_lt hij
  have := pw_le h (i := i) (k := k + 1) (by omega)
  rw [show i + (k + 1) = i + k + 1 from rfl] at this
  omega
theorem pwq_mono (h : okTo V W n) {i j : Nat} (hij : i ≤ j) (hj : j ≤ n) : (pw W i : Rat) ≤ (pw W j : Rat) := Rat.intCast_le_intCast.2 (pw_mono h hij hj)
theorem pwq_lt (h : okTo V W n) {i j : Nat} (hij : i < j) (hj : j ≤ n) : (pw W i : Rat) < (pw W j : Rat) := Rat.intCast_lt_intCast.2 (pw_lt h hij hj)
/-- how far the sum of the first j places lies above v times their weight -/
def FF (V W : List Int) (v : Rat) (j : Nat) : Rat := (ps V W j : Rat) - v * (pw W j : Rat)
theorem FF_up {u v : Rat} {i j : Nat} (huv : u ≤ v) (hp : (pw W i : Rat) ≤ (pw W j : Rat)) (h : FF V W u j ≤ FF V W u i) : FF V W v j ≤ FF V W v i := by
  have h1 : 0 ≤ (v - u) * ((pw W j : Rat) - (pw W i : Rat)) := Rat.mul_nonneg (by grind) (by grind)
  unfold FF at *
  grind
theorem FF_dn {u v : Rat} {i j : Nat} (huv : v ≤ u) (hp : (pw W i : Rat) ≤ (pw W j : Rat)) (h : FF V W u i ≤ FF V W u j) : FF V W v i ≤ FF V W v j := by
  have h1 : 0 ≤ (u - v) * ((pw W j : Rat) - (pw W i : Rat)) := Rat.mul_nonneg (by grind) (by grind)
  unfold FF at *
  grind
theorem mean_mul (h : okTo V W n) {i j : Nat} (hij : i < j) (hj : j ≤ n) : meanq V W i j * ((pw W j : Rat) - (pw W i : Rat)) = (ps V W j : Rat) - (ps V W i : Rat) := by
  have hlt := pwq_lt h hij hj
  unfold meanq
  rw [ofq_eq, vsum_ps, wsum_pw, show i + (j - i) = j from by omega, Rat.intCast_sub, Rat.intCast_sub]
  exact Rat.div_mul_cancel (by grind)
theorem mean_le (h : okTo V W n) {i j : Nat} (hij : i < j) (hj : j ≤ n) {v : Rat} (hF : FF V W v j ≤ FF V W v i) : meanq V W i j ≤ v := by
  have hm := mean_mul h hij hj
  have hlt := pwq_lt h hij hj
  refine Rat.not_lt.1 fun hc => ?_
  have := Rat.mul_pos (show 0 < meanq V W i j - v from by grind) (show 0 < (pw W j : Rat) - (pw W i : Rat) from by grind)
  unfold FF at hF
  grind
theorem mean_ge (h : okTo V W n) {i j : Nat} (hij : i < j) (hj : j ≤ n) {v : Rat} (hF : FF V W v i ≤ FF V W v j) : v ≤ meanq V W i j := by
  have hm := mean_mul h hij hj
  have hlt := pwq_lt h hij hj
  refine Rat.not_lt.1 fun hc => ?_
  have := Rat.mul_pos (show 0 < v - meanq V W i j from by grind) (show 0 < (pw W j : Rat) - (pw W i : Rat) from by grind)
  unfold FF at hF
  grind

/-! ## Blocks -/
def bval (b : Blk) : Rat := ofq b.s b.w
structure Loc (V W : List Int) (b : Blk) (p : Nat) : Prop where
  z : 0 < b.z
  s : b.s = ps V W (p + b.z) - ps V W p
  w : b.w = pw W (p + b.z) - pw W p
  pos : 0 < b.w
  beg : ∀ j, p ≤ j → j ≤ p + b.z → FF V W (bval b) j ≤ FF V W (bval b) p
theorem bval_mul {b : Blk} (h : 0 < b.w) : bval b * (b.w : Rat) = (b.s : Rat) := by
  unfold bval
  rw [ofq_eq]
  have : (0 : Rat) < (b.w : Rat) := Rat.intCast_lt_intCast.2 h
  exact Rat.div_mul_cancel (by grind)
theorem Loc.eq {b : Blk} {p : Nat} (h : Loc V W b p) : FF V W (bval b) (p + b.z) = FF V W (bval b) p := by
  have h1 := bval_mul h.pos
  have h2 : (b.s : Rat) = (ps V W (p + b.z) : Rat) - (ps V W p : Rat) := by rw [h.s, Rat.intCast_sub]
  have h3 : (b.w : Rat) = (pw W (p + b.z) : Rat) - (pw W p : Rat) := by rw [h.w, Rat.intCast_sub]
  unfold FF
  rw [h2, h3] at h1
  grind
theorem bval_le {a t : Blk} (ha : 0 < a.w) (ht : 0 < t.w) : bval a ≤ bval t ↔ a.s * t.w ≤ t.s * a.w := by
  have h1 := bval_mul ha
  have h2 := bval_mul ht
  have h3 : (0 : Rat) < (a.w : Rat) := Rat.intCast_lt_intCast.2 ha
  have h4 : (0 : Rat) < (t.w : Rat) := Rat.intCast_lt_intCast.2 ht
  rw [← Rat.intCast_le_intCast, Rat.intCast_mul, Rat.intCast_mul, ← h1, ← h2]
  have h5 : (0 : Rat) < (a.w : Rat) * (t.w : Rat) := Rat.mul_pos h3 h4
  constructor
  · intro h
    have := Rat.mul_nonneg (show 0 ≤ bval t - bval a from by grind) (Rat.le_of_lt h5)
    grind
  · intro h
    refine Rat.not_lt.1 fun hc => ?_
    have := Rat.mul_pos (show 0 < bval a - bval t from by grind) h5
    grind
theorem Loc.merge {a t : Blk} {p : Nat} (hok : okTo V W n) (ha : Loc V W a p) (ht : Loc V W t (p + a.z)) (hn : p + a.z + t.z ≤ n) (hle : bval a ≤ bval t) : Loc V W (mrg a t) p := by
  have hpos : 0 < (mrg a t).w := by have := ha.pos; have := ht.pos; simp only [Go.Fw.mrg]; omega
  have hz : p + (mrg a t).z = p + a.z + t.z := by simp only [Go.Fw.mrg]; omega
  have h1 := bval_mul ha.pos
  have h2 := bval_mul ht.pos
  have h3 := bval_mul hpos
  have h4 : (0 : Rat) < (a.w : Rat) := Rat.intCast_lt_intCast.2 ha.pos
  have h5 : (0 : Rat) < (t.w : Rat) := Rat.intCast_lt_intCast.2 ht.pos
  have e1 : ((mrg a t).w : Rat) = (a.w : Rat) + (t.w : Rat) := Rat.intCast_add _ _
  have e2 : ((mrg a t).s : Rat) = (a.s : Rat) + (t.s : Rat) := Rat.intCast_add _ _
  rw [e1, e2] at h3
  have hs : (mrg a t).s = ps V W (p + (mrg a t).z) - ps V W p := by
    rw [hz]; have := ha.s; have := ht.s; simp only [Go.Fw.mrg]; omega
  have hw : (mrg a t).w = pw W (p + (mrg a t).z) - pw W p := by
    rw [hz]; have := ha.w; have := ht.w; simp only [Go.Fw.mrg]; omega
  have hva : bval a ≤ bval (mrg a t) := by
    refine Rat.not_lt.1 fun hc => ?_
    have x1 := Rat.mul_pos (show 0 < bval a - bval (mrg a t) from by grind) (show 0 < (a.w : Rat) + (t.w : Rat) from by grind)
    have x2 := Rat.mul_nonneg (show 0 ≤ bval t - bval a from by grind) (Rat.le_of_lt h5)
    grind
  have hvt : bval (mrg a t) ≤ bval t := by
    refine Rat.not_lt.1 fun hc => ?_
    have x1 := Rat.mul_pos (show 0 < bval (mrg a t) - bval t from by grind) (show 0 < (a.w : Rat) + (t.w : Rat) from by grind)
    have x2 := Rat.mul_nonneg (show 0 ≤ bval t - bval a from by grind) (Rat.le_of_lt h4)
    grind
  refine ⟨by have := ha.z; simp only [Go.Fw.mrg]; omega, hs, hw, hpos, fun j hj1 hj2 => ?_⟩
  rw [hz] at hj2
  rcases Nat.le_total j (p + a.z) with hj | hj
  · exact FF_up hva (pwq_mono hok hj1 (by omega)) (ha.beg j hj1 hj)
  · have x1 : FF V W (bval t) j ≤ FF V W (bval t) (p + a.z + t.z) := by rw [ht.eq]; exact ht.beg j hj hj2
    have x2 := FF_dn hvt (pwq_mono hok hj2 hn) x1
    have x3 : FF V W (bval (mrg a t)) (p + (mrg a t).z) = FF V W (bval (mrg a t)) p := by
      have y2 : ((mrg a t).s : Rat) = (ps V W (p + (mrg a t).z) : Rat) - (ps V W p : Rat) := by rw [hs, Rat.intCast_sub]
      have y3 : ((mrg a t).w : Rat) = (pw W (p + (mrg a t).z) : Rat) - (pw W p : Rat) := by rw [hw, Rat.intCast_sub]
      have y1 := bval_mul hpos
      unfold FF
      rw [y2, y3] at y1
      grind
    rw [hz] at x3
    rw [← x3]; exact x2
/-- The blocks of the first n places, the last one first: each lies well, and they fall. -/
def Stk (V W : List Int) : List Blk → Nat → Prop
  | [], n => n = 0
  | b :: S, n => ∃ p, n = p + b.z ∧ Loc V W b p ∧ Stk V W S p ∧ (∀ a ∈ S.head?, bval b < bval a)
theorem Stk.push (hok : okTo V W n) : ∀ {S : List Blk} {t : Blk} {p m : Nat}, Stk V W S p → Loc V W t p → m = p + t.z → m ≤ n → Stk V W (pushB S t) m
  | [], t, p, m, hS, ht, hm, _ => ⟨p, hm, ht, hS, fun a ha => by cases ha⟩
  | a :: S, t, p, m, hS, ht, hm, hn => by
    obtain ⟨p', rfl, ha, hS', hd⟩ := hS
    rw [pushB]
    split
    · rename_i hle
      exact Stk.push hok hS' (Loc.merge hok ha ht (by omega) ((bval_le ha.pos ht.pos).2 hle)) (by simp only [Go.Fw.mrg]; omega) hn
    · rename_i hle
      refine ⟨p' + a.z, hm, ht, ⟨p', rfl, ha, hS', hd⟩, fun c hc => ?_⟩
      obtain rfl : a = c := by simpa using hc
      exact Rat.not_le.1 fun h => hle ((bval_le ha.pos ht.pos).1 h)
theorem Loc.one (hok : okTo V W n) {k : Nat} (hk : k < n) : Loc V W (at1 V W k) k := by
  have hw : 0 < W.getD k 0 := by have := (hok k hk).2.2.1; omega
  refine ⟨Nat.one_pos, ?_, ?_, hw, fun j h1 h2 => ?_⟩
  · show _ = ps V W (k + 1) - _; rw [ps]; simp only [at1]; omega
  · show _ = pw W (k + 1) - _; rw [pw]; simp only [at1]; omega
  · have hb := bval_mul (b := at1 V W k) hw
    rcases Nat.eq_or_lt_of_le h1 with rfl | h
    · exact Rat.le_refl
    · obtain rfl : j = k + 1 := by simp only [at1] at h2; omega
      refine rle_of_eq ?_
      unfold FF
      rw [ps, pw, Rat.intCast_add, Rat.intCast_add]
      simp only [at1] at hb ⊢
      grind
theorem stk_blkR (hok : okTo V W n) : ∀ {k : Nat}, k ≤ n → Stk V W (blkR V W k) k
  | 0, _ => rfl
  | k + 1, h => by
    rw [blkR]
    exact Stk.push hok (stk_blkR hok (k := k) (by omega)) (Loc.one hok (by omega)) rfl h
theorem Stk.desc : ∀ {S : List Blk} {b : Blk} {m : Nat}, Stk V W (b :: S) m → ∀ a ∈ S, bval b < bval a
  | [], _, _, _, a, ha => by cases ha
  | c :: S, b, m, h, a, ha => by
    obtain ⟨p, _, _, hS, hd⟩ := h
    have h1 := hd c rfl
    rcases List.mem_cons.1 ha with rfl | ha
    · exact h1
    · have := Stk.desc hS a ha
      grind
theorem Stk.down (hok : okTo V W n) : ∀ {S : List Blk} {m : Nat} {v : Rat}, Stk V W S m → m ≤ n → (∀ b ∈ S, v ≤ bval b) → ∀ j, j ≤ m → FF V W v j ≤ FF V W v m
  | [], m, v, h, _, _, j, hj => by
    obtain rfl : m = 0 := h
    obtain rfl : j = 0 := by omega
    exact Rat.le_refl
  | b :: S, m, v, h, hm, hv, j, hj => by
    obtain ⟨p, rfl, hb, hS, _⟩ := h
    have hvb := hv b (by simp)
    have e1 : FF V W v p ≤ FF V W v (p + b.z) := FF_dn hvb (pwq_mono hok (by omega) hm) (rle_of_eq hb.eq.symm)
    rcases Nat.le_total j p with h1 | h1
    · have e2 := Stk.down hok hS (by omega) (fun a ha => hv a (by simp [ha])) j h1
      grind
    · exact FF_dn hvb (pwq_mono hok hj hm) (by rw [hb.eq]; exact hb.beg j h1 hj)
/-- v is the value of the fit at place k. -/
def IsFit (V W : List Int) (n k : Nat) (v : Rat) : Prop := ∃ p q, p ≤ k ∧ k < q ∧ q ≤ n ∧ (∀ j, j ≤ n → FF V W v j ≤ FF V W v p) ∧ (∀ j, j ≤ n → FF V W v j ≤ FF V W v q)
/-- each block, with its place, is where the sums are greatest -/
def Tops (V W : List Int) (n : Nat) : List Blk → Nat → Prop
  | [], m => m = 0
  | b :: S, m => ∃ p, m = p + b.z ∧ 0 < b.z ∧ (∀ j, j ≤ n → FF V W (bval b) j ≤ FF V W (bval b) p) ∧ (∀ j, j ≤ n → FF V W (bval b) j ≤ FF V W (bval b) m) ∧ (∀ a ∈ S.head?, bval b < bval a) ∧ Tops V W n S p
theorem Stk.tops (hok : okTo V W n) : ∀ {S : List Blk} {m : Nat}, Stk V W S m → m ≤ n → (∀ a ∈ S.head?, ∀ v, bval a ≤ v → ∀ j, m ≤ j → j ≤ n → FF V W v j ≤ FF V W v m) → Tops V W n S m
  | [], m, h, _, _ => h
  | b :: S, m, h, hm, hup => by
    have hdesc := Stk.desc h
    obtain ⟨p, rfl, hb, hS, hd⟩ := h
    have hu := hup b rfl
    have heq := hb.eq
    have hP : ∀ j, j ≤ n → FF V W (bval b) j ≤ FF V W (bval b) p := by
      intro j hj
      rcases Nat.le_total j p with h1 | h1
      · exact Stk.down hok hS (by omega) (fun a ha => Rat.le_of_lt (hdesc a ha)) j h1
      · rcases Nat.le_total j (p + b.z) with h2 | h2
        · exact hb.beg j h1 h2
        · rw [← heq]; exact hu _ Rat.le_refl j h2 hj
    refine ⟨p, rfl, hb.z, hP, fun j hj => by rw [heq]; exact hP j hj, hd, Stk.tops hok hS (by omega) fun a ha v hv j h1 hj => ?_⟩
    have hbv : bval b ≤ v := by have := hd a ha; grind
    rcases Nat.le_total j (p + b.z) with h2 | h2
    · exact FF_up hbv (pwq_mono hok h1 hj) (hb.beg j h1 h2)
    · have e1 := hu v hbv j h2 hj
      have e2 : FF V W v (p + b.z) ≤ FF V W v p := FF_up hbv (pwq_mono hok (by omega) (by omega)) (rle_of_eq heq)
      grind
theorem tops_blkR (hok : okTo V W n) : Tops V W n (blkR V W n) n := by
  refine Stk.tops hok (stk_blkR hok (Nat.le_refl n)) (Nat.le_refl n) fun a _ v _ j h1 h2 => ?_
  rw [show j = n from by omega]; exact Rat.le_refl
theorem fitB_snoc (S : List Blk) (b : Blk) : fitB (b :: S).reverse = fitB S.reverse ++ List.replicate b.z (bval b) := by
  unfold fitB bval
  rw [List.reverse_cons, List.flatMap_append, List.flatMap_cons, List.flatMap_nil, List.append_nil]
theorem Tops.fit : ∀ {S : List Blk} {m : Nat}, Tops V W n S m → m ≤ n → (fitB S.reverse).length = m ∧ ∀ k, k < m → IsFit V W n k ((fitB S.reverse).getD k 0)
  | [], m, h, _ => by
    obtain rfl : m = 0 := h
    exact ⟨rfl, fun k hk => absurd hk (Nat.not_lt_zero k)⟩
  | b :: S, m, h, hm => by
    obtain ⟨p, rfl, hz, hP, hQ, _, hS⟩ := h
    obtain ⟨ih1, ih2⟩ := Tops.fit hS (by omega)
    rw [fitB_snoc]
    refine ⟨by rw [List.length_append, List.length_replicate, ih1], fun k hk => ?_⟩
    rw [List.getD_eq_getElem?_getD]
    rcases Nat.lt_or_ge k p with h1 | h1
    · rw [List.getElem?_append_left (by rw [ih1]; exact h1), ← List.getD_eq_getElem?_getD]
      exact ih2 k h1
    · rw [List.getElem?_append_right (by rw [ih1]; exact h1), ih1, List.getElem?_replicate, if_pos (by omega)]
      exact ⟨p, p + b.z, h1, hk, hm, hP, hQ⟩
theorem fitL_ok (h : chk V W = 0) : (fitL V W).length = V.length ∧ ∀ k, k < V.length → IsFit V W V.length k ((fitL V W).getD k 0) := by
  obtain ⟨_, _, hok⟩ := chk_zero h
  have := Tops.fit (tops_blkR hok) (Nat.le_refl _)
  unfold fitL blkL
  rw [if_pos h]
  exact this
theorem isFit_unique (hok : okTo V W n) {k : Nat} {u v : Rat} (hu : IsFit V W n k u) (hv : IsFit V W n k v) : u = v := by
  have key : ∀ {u v : Rat}, IsFit V W n k u → IsFit V W n k v → u ≤ v := by
    intro u v ⟨p, q, h1, h2, h3, h4, h5⟩ ⟨p', q', a1, a2, a3, a4, a5⟩
    have e1 := mean_ge hok (show p' < q from by omega) h3 (h5 p' (by omega))
    have e2 := mean_le hok (show p' < q from by omega) h3 (a4 q h3)
    exact Rat.le_trans e1 e2
  exact Rat.le_antisymm (key hu hv) (key hv hu)
/-! ## The least of the greatest means -/
def mst (V W : List Int) (i k : Nat) : Nat → Rat
  | 0 => meanq V W i (k + 1)
  | d + 1 => if mst V W i k d < meanq V W i (k + 2 + d) then meanq V W i (k + 2 + d) else mst V W i k d
theorem mst_ge {i k : Nat} : ∀ {d j : Nat}, k < j → j ≤ k + 1 + d → meanq V W i j ≤ mst V W i k d
  | 0, j, h1, h2 => by rw [show j = k + 1 from by omega]; exact Rat.le_refl
  | d + 1, j, h1, h2 => by
    rw [mst]
    rcases Nat.eq_or_lt_of_le h2 with h | h
    · rw [show j = k + 2 + d from by omega]
      split
      · exact Rat.le_refl
      · grind
    · have := mst_ge (i := i) (d := d) h1 (by omega)
      split
      · grind
      · exact this
theorem mst_eq {i k : Nat} : ∀ {d : Nat}, ∃ j, k < j ∧ j ≤ k + 1 + d ∧ mst V W i k d = meanq V W i j
  | 0 => ⟨k + 1, by omega, by omega, rfl⟩
  | d + 1 => by
    rw [mst]
    split
    · exact ⟨k + 2 + d, by omega, by omega, rfl⟩
    · obtain ⟨j, h1, h2, h3⟩ := mst_eq (d := d)
      exact ⟨j, h1, by omega, h3⟩
def lst (V W : List Int) (n k : Nat) : Nat → Rat
  | 0 => mst V W 0 k (n - (k + 1))
  | i + 1 => if mst V W (i + 1) k (n - (k + 1)) < lst V W n k i then mst V W (i + 1) k (n - (k + 1)) else lst V W n k i
theorem lst_le {k : Nat} : ∀ {t i : Nat}, i ≤ t → lst V W n k t ≤ mst V W i k (n - (k + 1))
  | 0, i, h => by rw [show i = 0 from by omega]; exact Rat.le_refl
  | t + 1, i, h => by
    rw [lst]
    rcases Nat.eq_or_lt_of_le h with h | h
    · rw [h]
      split
      · exact Rat.le_refl
      · grind
    · have := lst_le (k := k) (t := t) (i := i) (by omega)
      split
      · grind
      · exact this
theorem lst_eq {k : Nat} : ∀ {t : Nat}, ∃ i, i ≤ t ∧ lst V W n k t = mst V W i k (n - (k + 1))
  | 0 => ⟨0, Nat.le_refl _, rfl⟩
  | t + 1 => by
    rw [lst]
    split
    · exact ⟨t + 1, Nat.le_refl _, rfl⟩
    · obtain ⟨i, h1, h2⟩ := lst_eq (t := t)
      exact ⟨i, by omega, h2⟩
theorem isFit_lst (hok : okTo V W n) {k : Nat} (hk : k < n) {v : Rat} (h : IsFit V W n k v) : lst V W n k k = v := by
  obtain ⟨p, q, h1, h2, h3, h4, h5⟩ := h
  refine Rat.le_antisymm ?_ ?_
  · have e1 := lst_le (n := n) (k := k) (V := V) (W := W) h1
    obtain ⟨j, a1, a2, a3⟩ := mst_eq (V := V) (W := W) (i := p) (k := k) (d := n - (k + 1))
    have e2 := mean_le hok (show p < j from by omega) (by omega) (h4 j (by omega))
    rw [← a3] at e2
    exact Rat.le_trans e1 e2
  · obtain ⟨i, a1, a2⟩ := lst_eq (V := V) (W := W) (n := n) (k := k) (t := k)
    rw [a2]
    have e1 := mst_ge (V := V) (W := W) (i := i) (k := k) (d := n - (k + 1)) h2 (by omega)
    have e2 := mean_ge hok (show i < q from by omega) h3 (h5 i (by omega))
    exact Rat.le_trans e2 e1
/-- what the reference returns -/
def rfitL (V W : List Int) : List Rat := if chk V W = 0 then (List.range V.length).map (fun k => lst V W V.length k k) else []
theorem fitL_rfit (V W : List Int) : fitL V W = rfitL V W := by
  by_cases h : chk V W = 0
  · obtain ⟨h1, h2⟩ := fitL_ok h
    obtain ⟨_, _, hok⟩ := chk_zero h
    refine List.ext_getElem? fun k => ?_
    unfold rfitL
    rw [if_pos h, List.getElem?_map]
    rcases Nat.lt_or_ge k V.length with hk | hk
    · rw [List.getElem?_range hk, Option.map_some, isFit_lst hok hk (h2 k hk), List.getD_eq_getElem?_getD, List.getElem?_eq_getElem (by rw [h1]; exact hk)]
      rfl
    · rw [List.getElem?_eq_none (by rw [h1]; exact hk), List.getElem?_eq_none (by simpa using hk)]; rfl
  · unfold fitL rfitL; rw [if_neg h, if_neg h]
end Go.Fw
