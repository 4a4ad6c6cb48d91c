/- Chapter 48: the reference's editions; the laws of editions. Plain. -/
import Derived.Test.YthaepkealhkkmaaCcD
import Derived.Test.YthaepkealhkkmaaCcF
namespace Go.Fw
open Go Go.RowKit

/-- The reference's order of keys. -/
abbrev ordM (E : List Pr) (most : Int) : Prop := (∀ i, i < E.length → 0 < i → (E.getD (i - 1) dP).1 < (E.getD i dP).1) ∧ (E.length : Int) ≤ most
theorem ord_no {E : List Pr} {most : Int} {i : Nat} (hi : i < E.length) (h0 : 0 < i) (h : ¬ (E.getD (i - 1) dP).1 < (E.getD i dP).1) : decide (ordM E most) = false := decide_eq_false fun e => h (e.1 i hi h0)
/-- The first key that has a number. -/
def ownP (E : List Pr) (v : Int) : Option Pr := E.find? fun p => decide (p.2 = v)
def ownV (E : List Pr) (v : Int) : Int := ((ownP E v).getD dP).1
theorem own_hit {E : List Pr} {v : Int} {i : Nat} (hi : i < E.length) (he : (E.getD i dP).2 = v) (hj : ∀ j, j < i → (E.getD j dP).2 ≠ v) : ownV E v = (E.getD i dP).1 := by
  have : ownP E v = some (E.getD i dP) := by
    unfold ownP
    rw [List.find?_eq_some_iff_getElem]
    refine ⟨by simpa using he, i, hi, ?_, fun j hj' => ?_⟩
    · rw [List.getD_eq_getElem?_getD, List.getElem?_eq_getElem hi]; rfl
    · have := hj j hj'
      rw [List.getD_eq_getElem?_getD, List.getElem?_eq_getElem (by omega)] at this
      simpa using this
  unfold ownV; rw [this]; rfl
theorem own_miss {E : List Pr} {v : Int} (hj : ∀ j, j < E.length → (E.getD j dP).2 ≠ v) : ownV E v = 0 := by
  have : ownP E v = none := by
    unfold ownP
    rw [List.find?_eq_none]
    intro p hp
    obtain ⟨j, hj', e⟩ := List.mem_iff_getElem.1 hp
    have := hj j hj'
    rw [List.getD_eq_getElem?_getD, List.getElem?_eq_getElem hj'] at this
    rw [← e]; simpa using this
  unfold ownV; rw [this]; rfl
/-- The first place of a number. -/
theorem own_at {E : List Pr} : ∀ (n : Nat) {i : Nat}, i < n → i < E.length → ∃ j, j ≤ i ∧ (E.getD j dP).2 = (E.getD i dP).2 ∧ ownV E (E.getD i dP).2 = (E.getD j dP).1
  | 0, _, h, _ => absurd h (Nat.not_lt_zero _)
  | n + 1, i, hn, hi => by
    by_cases h : ∀ j, j < i → (E.getD j dP).2 ≠ (E.getD i dP).2
    · exact ⟨i, Nat.le_refl _, rfl, own_hit hi rfl h⟩
    · obtain ⟨j, hj⟩ := Classical.not_forall.1 h
      obtain ⟨hji, he⟩ := Classical.not_imp.1 hj
      have he : (E.getD j dP).2 = (E.getD i dP).2 := Classical.byContradiction he
      obtain ⟨k, hk, e1, e2⟩ := own_at (E := E) n (i := j) (by omega) (by omega)
      exact ⟨k, by omega, e1.trans he, by rw [← he]; exact e2⟩
def rowOk (E : List Pr) (R : List Int) (i : Nat) : Prop := (1 ≤ (E.getD i dP).1 ∧ (E.getD i dP).1 ≤ 9999) ∧ (1 ≤ (E.getD i dP).2 ∧ (E.getD i dP).2 ≤ 999) ∧ (E.getD i dP).2 ∉ R ∧ ownV E (E.getD i dP).2 = (E.getD i dP).1
theorem rowNext {E : List Pr} {R : List Int} {i : Nat} (h : ∀ j, j < i → rowOk E R j) (hi : rowOk E R i) : ∀ j, j < i + 1 → rowOk E R j := fun j hj => by
  by_cases e : j = i
  · subst e; exact hi
  · exact h j (by omega)
theorem ord_lt {E : List Pr} (h : ∀ i, i < E.length → 0 < i → (E.getD (i - 1) dP).1 < (E.getD i dP).1) {i j : Nat} (hij : i < j) (hj : j < E.length) : (E.getD i dP).1 < (E.getD j dP).1 := by
  have := upC_getD (l := keysL E) (fun k hk h0 => by rw [map_getD1, map_getD1]; exact h k (by simpa using hk) h0) hij (by simpa using hj)
  rw [map_getD1, map_getD1] at this
  exact this
theorem mem_numsL {E : List Pr} {x : Int} : x ∈ numsL E ↔ ∃ i, i < E.length ∧ (E.getD i dP).2 = x := by
  rw [mem_srtI]
  constructor
  · intro h
    obtain ⟨j, hj, e⟩ := List.mem_iff_getElem.1 h
    have hj' : j < E.length := by simpa using hj
    exact ⟨j, hj', by rw [← map_getD2, List.getD_eq_getElem?_getD, List.getElem?_eq_getElem hj]; exact e⟩
  · rintro ⟨i, hi, e⟩
    rw [← e, ← map_getD2]
    exact getD_memI (by simpa using hi)
theorem nums_inj {E : List Pr} (h : AscI (numsL E)) {i j : Nat} (hi : i < E.length) (hj : j < E.length) (he : (E.getD i dP).2 = (E.getD j dP).2) : i = j := by
  have hn : (numsL E).Nodup := h.imp fun h => Int.ne_of_lt h
  have hn2 : (E.map (·.2)).Nodup := (srtI_perm _).nodup_iff.1 hn
  have hp := List.pairwise_iff_getElem.1 hn2
  have ge : ∀ k (hk : k < (E.map (·.2)).length), (E.map (·.2))[k] = (E.getD k dP).2 := fun k hk => by
    rw [← map_getD2, List.getD_eq_getElem?_getD, List.getElem?_eq_getElem hk]; rfl
  rcases Nat.lt_trichotomy i j with h1 | h1 | h1
  · exact absurd (by rw [ge, ge]; exact he) (hp i j (by simpa using hi) (by simpa using hj) h1)
  · exact h1
  · exact absurd (by rw [ge, ge]; exact he.symm) (hp j i (by simpa using hj) (by simpa using hi) h1)
theorem asc_nums {E : List Pr} (h : ∀ i j, i < j → j < E.length → (E.getD i dP).2 ≠ (E.getD j dP).2) : AscI (numsL E) := by
  have hn2 : (E.map (·.2)).Nodup := List.pairwise_iff_getElem.2 fun i j hi hj hij => by
    have ge : ∀ k (hk : k < (E.map (·.2)).length), (E.map (·.2))[k] = (E.getD k dP).2 := fun k hk => by
      rw [← map_getD2, List.getD_eq_getElem?_getD, List.getElem?_eq_getElem hk]; rfl
    rw [ge, ge]; exact h i j hij (by simpa using hj)
  have hn : (numsL E).Nodup := (srtI_perm _).nodup_iff.2 hn2
  refine List.pairwise_iff_getElem.2 fun i j hi hj hij => ?_
  have h1 : (numsL E)[i] ≤ (numsL E)[j] := List.pairwise_iff_getElem.1 (srtI_mono (E.map (·.2))) i j hi hj hij
  have h2 := List.pairwise_iff_getElem.1 hn i j hi hj hij
  omega
theorem ed_ref {E : List Pr} {R : List Int} (h1 : ordM E 64) (h2 : R.length ≤ 64) (h3 : upC R 1 999) (h4 : ∀ i, i < E.length → rowOk E R i) : edC E R := by
  have hl : E.length ≤ 64 := by have := h1.2; omega
  refine ⟨⟨fun i hi => ?_, by rw [List.length_map]; exact hl⟩, ⟨upC_iff.2 ⟨asc_nums fun i j hij hj he => ?_, fun x hx => ?_⟩, by rw [srtI_len, List.length_map]; exact hl⟩, ⟨h3, h2⟩, fun x hx hm => ?_⟩
  · have hi' : i < E.length := by simpa using hi
    refine ⟨by rw [map_getD1]; exact (h4 i hi').1, fun h0 => ?_⟩
    rw [map_getD1, map_getD1]; exact h1.1 i hi' h0
  · have e1 := (h4 i (by omega)).2.2.2
    have e2 := (h4 j hj).2.2.2
    rw [he, e2] at e1
    have := ord_lt h1.1 hij hj
    omega
  · obtain ⟨i, hi, e⟩ := mem_numsL.1 hx
    rw [← e]; exact (h4 i hi).2.1
  · obtain ⟨i, hi, e⟩ := mem_numsL.1 hm
    exact (h4 i hi).2.2.1 (e ▸ hx)
theorem ed_parts {E : List Pr} {R : List Int} (h : edC E R) : ordM E 64 ∧ R.length ≤ 64 ∧ upC R 1 999 ∧ ∀ i, i < E.length → rowOk E R i := by
  obtain ⟨⟨k1, k2⟩, ⟨n1, n2⟩, ⟨r1, r2⟩, hd⟩ := h
  have hl : E.length ≤ 64 := by rwa [List.length_map] at k2
  have hasc := (upC_iff.1 n1).1
  refine ⟨⟨fun i hi h0 => ?_, by omega⟩, r2, r1, fun i hi => ⟨?_, ?_, fun hm => hd _ hm (mem_numsL.2 ⟨i, hi, rfl⟩), ?_⟩⟩
  · have := (k1 i (by simpa using hi)).2 h0
    rw [map_getD1, map_getD1] at this; exact this
  · have := (k1 i (by simpa using hi)).1
    rw [map_getD1] at this; exact this
  · exact (upC_iff.1 n1).2 _ (mem_numsL.2 ⟨i, hi, rfl⟩)
  · obtain ⟨j, hj, e1, e2⟩ := own_at (i + 1) (i := i) (by omega) hi
    rw [e2, nums_inj hasc (by omega) hi e1]
theorem fnd_pos {E : List Pr} {R : List Int} {k : Int} (h : edC E R) : fndV E k ≠ 0 ↔ fndB E k = true := by
  unfold fndV fndB fndP
  cases hf : E.find? (fun p => decide (p.1 = k)) with
  | none => simp [dP]
  | some p =>
    have hm := List.mem_of_find?_eq_some hf
    obtain ⟨j, hj, e⟩ := List.mem_iff_getElem.1 hm
    have := ((ed_parts h).2.2.2 j hj).2.1.1
    rw [List.getD_eq_getElem?_getD, List.getElem?_eq_getElem hj] at this
    simp only [Option.getD_some] at this ⊢
    rw [e] at this
    simp; omega
/-! ## What two editions have in common -/
theorem fnd_iff {E : List Pr} {R : List Int} (h : edC E R) {k v : Int} : fndP E k = some (k, v) ↔ (k, v) ∈ E := by
  constructor
  · intro hf; exact List.mem_of_find?_eq_some hf
  · intro hm
    obtain ⟨j, hj, e⟩ := List.mem_iff_getElem.1 hm
    have ho := (ed_parts h).1.1
    have ej : E.getD j dP = (k, v) := by rw [List.getD_eq_getElem?_getD, List.getElem?_eq_getElem hj]; exact e
    rw [← ej]
    refine fndP_hit hj (by rw [ej]) fun i hi he => ?_
    have := ord_lt ho hi hj
    rw [ej] at this
    simp only at this
    omega
theorem fndB_iff {E : List Pr} {R : List Int} (h : edC E R) {k : Int} : fndB E k = true ↔ ∃ v, (k, v) ∈ E := by
  unfold fndB
  rw [Option.isSome_iff_exists]
  constructor
  · rintro ⟨p, hp⟩
    have h1 := List.find?_some hp
    have h2 := List.mem_of_find?_eq_some hp
    have h1 : p.1 = k := by simpa using h1
    exact ⟨p.2, by rw [← h1]; exact h2⟩
  · rintro ⟨v, hv⟩; exact ⟨_, (fnd_iff h).2 hv⟩
theorem fndV_iff {E : List Pr} {R : List Int} (h : edC E R) {k v : Int} (hm : (k, v) ∈ E) : fndV E k = v := by
  unfold fndV; rw [(fnd_iff h).2 hm]; rfl
theorem mem_ofL {E F : List Pr} {R S : List Int} (hF : edC F S) {x : Pr} : ∀ {i : Nat}, i ≤ E.length → (x ∈ ofL E F i ↔ ∃ j, j < i ∧ (E.getD j dP).2 = x.1 ∧ ((E.getD j dP).1, x.2) ∈ F)
  | 0, _ => by simp [ofL]
  | i + 1, hi => by
    have ih := mem_ofL (E := E) (R := R) hF (x := x) (i := i) (by omega)
    rw [ofL]
    split
    · rename_i hb
      obtain ⟨v, hv⟩ := (fndB_iff hF).1 hb
      rw [List.mem_append, ih, List.mem_singleton, fndV_iff hF hv]
      constructor
      · rintro (⟨j, hj, e⟩ | e)
        · exact ⟨j, by omega, e⟩
        · subst e; exact ⟨i, by omega, rfl, hv⟩
      · rintro ⟨j, hj, e1, e2⟩
        by_cases hji : j = i
        · subst hji
          right
          have := fndV_iff hF e2
          rw [fndV_iff hF hv] at this
          exact Prod.ext e1.symm this.symm
        · exact .inl ⟨j, by omega, e1, e2⟩
    · rename_i hb
      rw [ih]
      constructor
      · rintro ⟨j, hj, e⟩; exact ⟨j, by omega, e⟩
      · rintro ⟨j, hj, e1, e2⟩
        by_cases hji : j = i
        · subst hji; exact absurd ((fndB_iff hF).2 ⟨_, e2⟩) hb
        · exact ⟨j, by omega, e1, e2⟩
theorem mem_of {E F : List Pr} {R S : List Int} (hE : edC E R) (hF : edC F S) {x : Pr} : x ∈ ofR E R F S ↔ ∃ k, (k, x.1) ∈ E ∧ (k, x.2) ∈ F := by
  rw [(of_ok ⟨hE, hF⟩).1, mem_srt, mem_ofL (R := R) hF (Nat.le_refl _)]
  constructor
  · rintro ⟨j, hj, e1, e2⟩
    refine ⟨_, ?_, e2⟩
    rw [← e1]; exact getD_mem2 hj
  · rintro ⟨k, h1, h2⟩
    obtain ⟨j, hj, e⟩ := List.mem_iff_getElem.1 h1
    have ej : E.getD j dP = (k, x.1) := by rw [List.getD_eq_getElem?_getD, List.getElem?_eq_getElem hj]; exact e
    exact ⟨j, hj, by rw [ej], by rw [ej]; exact h2⟩
theorem ed_num {E : List Pr} {R : List Int} (h : edC E R) {p : Pr} (hp : p ∈ E) : numOk p.2 := by
  obtain ⟨j, hj, e⟩ := List.mem_iff_getElem.1 hp
  have := ((ed_parts h).2.2.2 j hj).2.1
  rw [List.getD_eq_getElem?_getD, List.getElem?_eq_getElem hj] at this
  simp only [Option.getD_some] at this
  rw [e] at this; exact this
theorem ed_val {E : List Pr} {R : List Int} (h : edC E R) {k k' v : Int} (h1 : (k, v) ∈ E) (h2 : (k', v) ∈ E) : k = k' := by
  obtain ⟨i, hi, e1⟩ := List.mem_iff_getElem.1 h1
  obtain ⟨j, hj, e2⟩ := List.mem_iff_getElem.1 h2
  have ei : E.getD i dP = (k, v) := by rw [List.getD_eq_getElem?_getD, List.getElem?_eq_getElem hi]; exact e1
  have ej : E.getD j dP = (k', v) := by rw [List.getD_eq_getElem?_getD, List.getElem?_eq_getElem hj]; exact e2
  have := nums_inj (upC_iff.1 h.2.1.1).1 hi hj (by rw [ei, ej])
  subst this
  rw [ei] at ej; exact congrArg Prod.fst ej
theorem ed_key {E : List Pr} {R : List Int} (h : edC E R) {k v v' : Int} (h1 : (k, v) ∈ E) (h2 : (k, v') ∈ E) : v = v' := (fndV_iff h h1).symm.trans (fndV_iff h h2)
theorem valid_of {E F : List Pr} {R S : List Int} (hE : edC E R) (hF : edC F S) : validC (ofR E R F S) := by
  refine validC_of (by rw [(of_ok ⟨hE, hF⟩).1]; exact asc_srt _) (fun x hx => ?_) (by have := ofR_len E F R S; omega)
  obtain ⟨k, h1, h2⟩ := (mem_of hE hF).1 hx
  exact ⟨ed_num (p := (k, x.1)) hE h1, ed_num (p := (k, x.2)) hF h2⟩
theorem of_inv {E F : List Pr} {R S : List Int} (hE : edC E R) (hF : edC F S) : ofR F S E R = invR (ofR E R F S) :=
  Asc.ext (valid_of hF hE).asc (asc_invR _) fun x => by
    rw [mem_invR (valid_of hE hF), mem_of hF hE, mem_of hE hF]
    exact ⟨fun ⟨k, h1, h2⟩ => ⟨k, h2, h1⟩, fun ⟨k, h1, h2⟩ => ⟨k, h2, h1⟩⟩
theorem spl_nil {l : List Pr} (h : validC l) (hu : ∀ a b b', (a, b) ∈ l → (a, b') ∈ l → b = b') : (splR l).length = 0 := by
  rcases hs : splR l with _ | ⟨x, t⟩
  · rfl
  · exfalso
    have hx : x ∈ splR l := by rw [hs]; exact List.mem_cons_self
    obtain ⟨j, h0, hj, e1, e2⟩ := (mem_splR h).1 hx
    have m1 := getD_mem2 (l := l) (j := j - 1) (by omega)
    have m2 := getD_mem2 (l := l) (j := j) hj
    have hlt := (h.1 j hj).2 h0
    have he : (l.getD (j - 1) dP).2 = (l.getD j dP).2 := hu x _ _ (by rw [← e1]; exact m1) (by rw [← e2]; exact m2)
    have : l.getD (j - 1) dP = l.getD j dP := Prod.ext (e1.trans e2.symm) he
    rw [this] at hlt
    exact ltP.irr _ hlt
theorem of_exact {E F : List Pr} {R S : List Int} (hE : edC E R) (hF : edC F S) : exB (ofR E R F S) = true := by
  have hv := valid_of hE hF
  refine decide_eq_true ⟨hv, spl_nil hv fun a b b' h1 h2 => ?_, ?_⟩
  · obtain ⟨k, p1, p2⟩ := (mem_of hE hF).1 h1
    obtain ⟨k', q1, q2⟩ := (mem_of hE hF).1 h2
    have := ed_val hE p1 q1
    subst this
    exact ed_key hF p2 q2
  · rw [lumR_ok hv, ← of_inv hE hF]
    refine spl_nil (valid_of hF hE) fun a b b' h1 h2 => ?_
    obtain ⟨k, p1, p2⟩ := (mem_of hF hE).1 h1
    obtain ⟨k', q1, q2⟩ := (mem_of hF hE).1 h2
    have := ed_val hF p1 q1
    subst this
    exact ed_key hE p2 q2
theorem of_ref {E F : List Pr} {R S : List Int} (h : edC E R ∧ edC F S) {i : Nat} (hi : i = E.length) : srt (ofL E F i) = ofR E R F S := by subst hi; exact (of_ok h).1.symm
/-! ## Over a third edition -/
theorem len_sub : ∀ {l c : List Pr}, l.Nodup → (∀ x ∈ l, x ∈ c) → l.length ≤ c.length
  | [], _, _, _ => Nat.zero_le _
  | x :: l, c, hn, h => by
    have hn' := List.nodup_cons.1 hn
    have ih := len_sub (l := l) (c := c.erase x) hn'.2 (fun y hy => (List.mem_erase_of_ne (fun e => hn'.1 (by rw [← e]; exact hy))).2 (h y (List.mem_cons_of_mem _ hy)))
    have hx := h x List.mem_cons_self
    rw [List.length_erase_of_mem hx] at ih
    have := List.length_pos_of_mem hx
    simp only [List.length_cons]; omega
theorem over_in {E F G : List Pr} {R S U : List Int} (hE : edC E R) (hF : edC F S) (hG : edC G U) {x : Pr} (h : x ∈ cmpL (ofR E R F S) (ofR F S G U) (ofR E R F S).length) : x ∈ ofR E R G U := by
  obtain ⟨b, h1, h2⟩ := mem_cmp.1 h
  obtain ⟨k, p1, p2⟩ := (mem_of hE hF).1 h1
  obtain ⟨k', q1, q2⟩ := (mem_of hF hG).1 h2
  have := ed_val hF p2 q1
  subst this
  exact (mem_of hE hG).2 ⟨k, p1, q2⟩
theorem over_ok {E F G : List Pr} {R S U : List Int} (hE : edC E R) (hF : edC F S) (hG : edC G U) : coE (ofR E R F S) (ofR F S G U) = 0 := by
  have hv : validC (ofR E R F S) ∧ validC (ofR F S G U) := ⟨valid_of hE hF, valid_of hF hG⟩
  have hl : (srt (cmpL (ofR E R F S) (ofR F S G U) (ofR E R F S).length)).length ≤ 128 := by
    have h1 := len_sub (l := srt (cmpL (ofR E R F S) (ofR F S G U) (ofR E R F S).length)) (c := ofR E R G U) ((asc_srt _).imp fun h e => by subst e; exact ltP.irr _ h) (fun x hx => over_in hE hF hG (mem_srt.1 hx))
    have h2 := ofR_len E G R U
    omega
  exact (both_ok hv).2.trans (sortR_ok hl).2
theorem over_sub {E F G : List Pr} {R S U : List Int} (hE : edC E R) (hF : edC F S) (hG : edC G U) : ∀ x ∈ coR (ofR E R F S) (ofR F S G U), x ∈ ofR E R G U := fun x hx => by
  rw [(co_ok (over_ok hE hF hG)).2.2.1, mem_srt] at hx
  exact over_in hE hF hG hx
theorem over_all {E F G : List Pr} {R S U : List Int} (hE : edC E R) (hF : edC F S) (hG : edC G U) (h : ∀ i, i < E.length → fndB G (E.getD i dP).1 = true → fndB F (E.getD i dP).1 = true) : coR (ofR E R F S) (ofR F S G U) = ofR E R G U := by
  refine Asc.ext (valid_co (over_ok hE hF hG)).asc (valid_of hE hG).asc fun x => ⟨over_sub hE hF hG x, fun hx => ?_⟩
  rw [mem_co (over_ok hE hF hG)]
  obtain ⟨k, p1, p2⟩ := (mem_of hE hG).1 hx
  obtain ⟨j, hj, e⟩ := List.mem_iff_getElem.1 p1
  have ej : E.getD j dP = (k, x.1) := by rw [List.getD_eq_getElem?_getD, List.getElem?_eq_getElem hj]; exact e
  have := h j hj
  rw [ej] at this
  obtain ⟨m, hm⟩ := (fndB_iff hF).1 (this ((fndB_iff hG).2 ⟨_, p2⟩))
  exact ⟨m, (mem_of hE hF).2 ⟨k, p1, hm⟩, (mem_of hF hG).2 ⟨k, hm, p2⟩⟩
end Go.Fw
namespace Go.Fw
open Go Go.RowKit
theorem withinF {m : List Pr} {p : Pr} {k : Nat} (h : false = true ↔ ∃ j, j < k ∧ p = m.getD j dP) : (decide (p = m.getD k dP) = true ↔ ∃ j, j < k + 1 ∧ p = m.getD j dP) := by
  rw [decide_eq_true_eq]
  constructor
  · intro e; exact ⟨k, by omega, e⟩
  · rintro ⟨j, hj, e⟩
    by_cases hk : j = k
    · subst hk; exact e
    · exact absurd (h.2 ⟨j, by omega, e⟩) (by decide)
theorem withinT {m : List Pr} {p : Pr} {k : Nat} (h : true = true ↔ ∃ j, j < k ∧ p = m.getD j dP) : (true = true ↔ ∃ j, j < k + 1 ∧ p = m.getD j dP) := by
  obtain ⟨j, hj, e⟩ := h.1 rfl
  exact ⟨fun _ => ⟨j, by omega, e⟩, fun _ => rfl⟩
theorem withinM {m : List Pr} {p : Pr} {k : Nat} (h : ∃ j, j < k ∧ p = m.getD j dP) (hk : k ≤ m.length) : p ∈ m := by
  obtain ⟨j, hj, e⟩ := h
  rw [e]; exact getD_mem2 (by omega)
theorem withinN {m : List Pr} {p : Pr} {k : Nat} (h : false = true ↔ ∃ j, j < k ∧ p = m.getD j dP) (hk : m.length ≤ k) (hp : p ∈ m) : False := by
  obtain ⟨j, hj, e⟩ := List.mem_iff_getElem.1 hp
  exact absurd (h.2 ⟨j, by omega, by rw [List.getD_eq_getElem?_getD, List.getElem?_eq_getElem hj]; exact e.symm⟩) (by decide)
theorem withinA {l m : List Pr} (h : ∀ j, j < l.length → l.getD j dP ∈ m) (x : Pr) (hx : x ∈ l) : x ∈ m := by
  obtain ⟨j, hj, e⟩ := List.mem_iff_getElem.1 hx
  have := h j hj
  rw [List.getD_eq_getElem?_getD, List.getElem?_eq_getElem hj] at this
  rw [← e]; exact this
end Go.Fw
namespace Go.Fw
open Go Go.RowKit
theorem numE_zero {E : List Pr} {R : List Int} {k : Int} (h : edC E R) : numE E R k = 0 ↔ fndB E k = true := by
  cases hb : fndB E k with
  | true => rw [(num_ok h hb).2]; exact ⟨fun _ => rfl, fun _ => rfl⟩
  | false => rw [(num_none h hb).2]; exact ⟨fun e => absurd e (by decide), fun e => absurd e (by decide)⟩
end Go.Fw
