/- Chapter 28: the reference's tree behind a row, and what it asks of an order; plain. -/
import Derived.Test.YtjkbamfcoiikmaaGreatDoorRfA
import Derived.Test.YtjkbamfcoiikmaaGreatDoorRfC
import Derived.Test.YtjkbamfcoiikmaaGreatDoorPqR
namespace Go.Fw.Pq
open Go Go.RowKit Go.Fw
theorem inI_rowS {L : List Int} {n : Nat} (ha : ascR L n) : inI L = rowS (nr L) := by
  funext x
  unfold inI
  rw [Bool.eq_iff_iff, decide_eq_true_iff, rowS_iff]
  unfold nr
  rw [List.mem_map]
  constructor
  · intro hx; exact ⟨_, hx, by simp⟩
  · rintro ⟨y, hy, rfl⟩
    obtain ⟨i, hi, rfl⟩ := List.mem_iff_getElem.1 hy
    have := (ha i hi).1
    rw [List.getD_eq_getElem?_getD, List.getElem?_eq_getElem hi] at this
    have h0 : 0 ≤ L[i] := this
    rw [Int.toNat_of_nonneg h0]; exact hy
theorem redC_redR {n : Nat} {t : PT} {L : List Int} (h : Tn n t) (ha : ascR L n) : redC (inI L) t = redR (nr L) t := by
  rw [inI_rowS ha]
  unfold redC redR
  by_cases c : nr L = []
  · rw [if_pos c, if_pos ((st_zero h.ok).2 fun x _ => by rw [c]; rfl)]
  · rw [if_neg c, if_neg (h.st_ne (nr_lt ha) c)]
theorem refE_no {n : Nat} {t : PT} {t' : AT} {L : List Int} (h : Tn n t) (ha : ascR L n) (hr : RN t' false (redC (inI L) t)) : redE n t L = 10 ∧ redT n t L = t := by
  have e := hr.no rfl
  rw [redC_redR h ha] at e
  unfold redE redT
  rw [if_pos ha, if_pos ha, e]; exact ⟨rfl, rfl⟩
theorem refE_yes {n : Nat} {t : PT} {t' : AT} {L : List Int} (h : Tn n t) (ha : ascR L n) (hr : RN t' true (redC (inI L) t)) : redE n t L = 0 ∧ redT n t L = er t' ∧ Fit t' := by
  obtain ⟨hf, e⟩ := hr.yes rfl
  rw [redC_redR h ha] at e
  unfold redE redT
  rw [if_pos ha, if_pos ha, e]; exact ⟨rfl, rfl, hf⟩
theorem newT_er {n : Nat} {l : List AT} {t : AT} (h : l.map er = (List.range n).map .leaf) (he : grp (l.map er) = [er t]) : er t = newT n := by
  unfold newT; rw [← h, he]; rfl
/-! ## Reach -/
theorem zsA_get {l : List Nat} {i : Nat} (h : i < l.length) : (zs l).getD i 0 = (l[i] : Int) := by
  unfold zs
  rw [List.getD_eq_getElem?_getD, List.getElem?_map, List.getElem?_eq_getElem h]; rfl
theorem rch_leaf {p : List Nat} (nd : p.Nodup) {n i : Nat} (h : i < p.length) (e : (zs p).getD i 0 = (n : Int)) : Rch p [n] i i := by
  rw [zsA_get h] at e
  have e' : p[i] = n := by omega
  have h1 := (idx_at nd (i := i) (x := n) (by rw [List.getElem?_eq_getElem h, e'])).2
  exact ⟨⟨n, List.mem_cons_self, h1⟩, ⟨n, List.mem_cons_self, h1⟩, fun x hx => by rw [List.mem_singleton.1 hx, h1]; omega⟩
theorem zsA_out {p : List Nat} {n : Nat} (h : ∀ j, j < p.length → (zs p).getD j 0 ≠ (n : Int)) : n ∉ p := fun hm => by
  obtain ⟨j, hj, e⟩ := List.mem_iff_getElem.1 hm
  exact h j hj (by rw [zsA_get hj, e])
def lvA (l : List AT) : List Nat := l.flatMap fun k => lvs (er k)
theorem lvA_take {l : List AT} {i : Nat} (h : i < l.length) : lvA (l.take (i + 1)) = lvA (l.take i) ++ lvs (er (l.getD i default)) := by
  unfold lvA; rw [takeA_succ h, List.flatMap_append, List.flatMap_singleton]
theorem lvA_kn {t : AT} (h : t.kids.length ≠ 0) : lvs (er t) = lvA t.kids := by
  rw [er_kn h, lvs_nd]; unfold lvA; rw [List.flatMap_map]
/-- The least and the greatest place of the first kids. -/
def RI (p : List Nat) (ks : List AT) (i : Nat) (lo hi : Int) : Prop := (i = 0 ∧ lo = (p.length : Int) ∧ hi = -1) ∨ (0 < i ∧ ∃ a b : Nat, lo = (a : Int) ∧ hi = (b : Int) ∧ Rch p (lvA (ks.take i)) a b)
theorem RI.zero (p : List Nat) (ks : List AT) : RI p ks 0 (p.length : Int) (-1) := .inl ⟨rfl, rfl, rfl⟩
theorem Rch.lt {p A : List Nat} {a b : Nat} (h : Rch p A a b) (hs : ∀ x ∈ A, x ∈ p) : a < p.length ∧ b < p.length := by
  obtain ⟨x, hx, e⟩ := h.low
  obtain ⟨y, hy, e'⟩ := h.high
  have := List.idxOf_lt_length_of_mem (hs x hx)
  have := List.idxOf_lt_length_of_mem (hs y hy)
  omega
theorem RI.step {p : List Nat} {ks : List AT} {i a b : Nat} {lo hi : Int} (h : RI p ks i lo hi) (hi' : i < ks.length) (hs : ∀ x ∈ lvs (er (ks.getD i default)), x ∈ p) (hk : Rch p (lvs (er (ks.getD i default))) a b) :
    RI p ks (i + 1) (if (a : Int) < lo then (a : Int) else lo) (if hi < (b : Int) then (b : Int) else hi) := by
  refine .inr ⟨Nat.succ_pos _, ?_⟩
  rw [lvA_take hi']
  have hl := hk.lt hs
  rcases h with ⟨rfl, rfl, rfl⟩ | ⟨_, c, d, rfl, rfl, hR⟩
  · refine ⟨a, b, if_pos (by omega), if_pos (by omega), ?_⟩
    rw [show lvA (ks.take 0) = [] from by rw [List.take_zero]; rfl, List.nil_append]; exact hk
  · have hA := hR.app hk
    refine ⟨min c a, max d b, ?_, ?_, hA⟩ <;> split <;> omega
theorem RI.done {p : List Nat} {t : AT} {i : Nat} {lo hi : Int} (h : RI p t.kids i lo hi) (hk : t.kids.length ≠ 0) (hi' : t.kids.length ≤ i) : ∃ a b : Nat, lo = (a : Int) ∧ hi = (b : Int) ∧ Rch p (lvs (er t)) a b := by
  rcases h with ⟨e, _⟩ | ⟨_, a, b, h1, h2, hR⟩
  · omega
  · rw [List.take_of_length_le hi', ← lvA_kn hk] at hR
    exact ⟨a, b, h1, h2, hR⟩
/-! ## Up and down -/
def upI (p : List Nat) (ks : List AT) (i : Nat) : Prop := ∀ j, j + 1 < i → Bef p (lvs (er (ks.getD j default))) (lvs (er (ks.getD (j + 1) default)))
def dnI (p : List Nat) (ks : List AT) (i : Nat) : Prop := ∀ j, j + 1 < i → Bef p (lvs (er (ks.getD (j + 1) default))) (lvs (er (ks.getD j default)))
theorem up_no {p : List Nat} {ks : List AT} {i : Nat} (h : false = true ↔ upI p ks i) : false = true ↔ upI p ks (i + 1) :=
  ⟨fun e => absurd e (by decide), fun hu => h.2 fun j hj => hu j (by omega)⟩
theorem dn_no {p : List Nat} {ks : List AT} {i : Nat} (h : false = true ↔ dnI p ks i) : false = true ↔ dnI p ks (i + 1) :=
  ⟨fun e => absurd e (by decide), fun hu => h.2 fun j hj => hu j (by omega)⟩
theorem up_yes {p : List Nat} {ks : List AT} {i : Nat} {q : Prop} [Decidable q] (h : true = true ↔ upI p ks i) (hi : 0 < i) (hq : q ↔ Bef p (lvs (er (ks.getD (i - 1) default))) (lvs (er (ks.getD i default)))) : decide q = true ↔ upI p ks (i + 1) := by
  rw [decide_eq_true_iff, hq]
  constructor
  · intro hb j hj
    by_cases c : j + 1 < i
    · exact h.1 rfl j c
    · obtain rfl : i = j + 1 := by omega
      exact hb
  · intro hu
    have := hu (i - 1) (by omega)
    rwa [show i - 1 + 1 = i from by omega] at this
theorem dn_yes {p : List Nat} {ks : List AT} {i : Nat} {q : Prop} [Decidable q] (h : true = true ↔ dnI p ks i) (hi : 0 < i) (hq : q ↔ Bef p (lvs (er (ks.getD i default))) (lvs (er (ks.getD (i - 1) default)))) : decide q = true ↔ dnI p ks (i + 1) := by
  rw [decide_eq_true_iff, hq]
  constructor
  · intro hb j hj
    by_cases c : j + 1 < i
    · exact h.1 rfl j c
    · obtain rfl : i = j + 1 := by omega
      exact hb
  · intro hu
    have := hu (i - 1) (by omega)
    rwa [show i - 1 + 1 = i from by omega] at this
theorem up_one {p : List Nat} {ks : List AT} {i : Nat} {b : Bool} (h : b = true ↔ upI p ks i) (hi : i = 0) : b = true ↔ upI p ks (i + 1) :=
  ⟨fun _ j hj => by omega, fun _ => h.2 fun j hj => by omega⟩
theorem dn_one {p : List Nat} {ks : List AT} {i : Nat} {b : Bool} (h : b = true ↔ dnI p ks i) (hi : i = 0) : b = true ↔ dnI p ks (i + 1) :=
  ⟨fun _ j hj => by omega, fun _ => h.2 fun j hj => by omega⟩
/-- Two kids that stand together each: one is ahead of the other one. -/
theorem dn_bef {p : List Nat} {k k' : PT} {lo hi lo' hi' : Nat} (nd : p.Nodup) (hF : Fits p k) (hF' : Fits p k') (hd : ∀ x ∈ lvs k, x ∉ lvs k') (hR : Rch p (lvs k) lo hi) (hR' : Rch p (lvs k') lo' hi') : hi > lo' ↔ Bef p (lvs k') (lvs k) := by
  obtain ⟨o, l, h1, h2, h3⟩ := hF.rng nd
  obtain ⟨o', l', h1', h2', h3'⟩ := hF'.rng nd
  have ne : lvs k ≠ [] := fun e => by obtain ⟨x, hx, _⟩ := hR.low; rw [e] at hx; cases hx
  have ne' : lvs k' ≠ [] := fun e => by obtain ⟨x, hx, _⟩ := hR'.low; rw [e] at hx; cases hx
  have u := hR.uniq (h1.rch nd (Fr_perm h2) ne)
  have u' := hR'.uniq (h1'.rch nd (Fr_perm h2') ne')
  have p1 := List.length_pos_iff.2 ne
  have p1' := List.length_pos_iff.2 ne'
  rw [← hR'.bef hR]
  constructor
  · intro hg
    refine Classical.byContradiction fun hn => ?_
    -- a place in both
    have hpl : max o o' < p.length := by
      have a1 := h1.le (Fr_ne_of h2 ne)
      have a2 := h1'.le (Fr_ne_of h2' ne')
      have e1 := (Fr_perm h2).length_eq
      have e2 := (Fr_perm h2').length_eq
      omega
    have hx : p[max o o']? = some p[max o o'] := List.getElem?_eq_getElem hpl
    obtain ⟨hm, hi⟩ := idx_at nd hx
    exact hd _ ((h3 _).2 ⟨hm, by omega, by omega⟩) ((h3' _).2 ⟨hm, by omega, by omega⟩)
  · intro hb
    have := hR.le; have := hR'.le; omega
where
  Fr_ne_of {k : PT} {l : List Nat} (h : Fr k l) (ne : lvs k ≠ []) : l ≠ [] := by
    rintro rfl
    have := (Fr_perm h).length_eq
    exact ne (List.length_eq_zero_iff.1 this.symm)
theorem chain_up {p : List Nat} {ks : List AT} {i : Nat} (hi : i = ks.length) : upI p ks i ↔ chain p (ks.map er) := by
  subst hi
  constructor
  · intro h j hj
    rw [List.length_map] at hj
    rw [getD_er ks (by omega), getD_er ks (by omega)]
    exact h j (by omega)
  · intro h j hj
    have := h j (by rw [List.length_map]; omega)
    rwa [getD_er ks (by omega), getD_er ks (by omega)] at this
theorem chain_dn {p : List Nat} {ks : List AT} {i : Nat} (hi : i = ks.length) : dnI p ks i ↔ down p (ks.map er) := by
  subst hi
  constructor
  · intro h j hj
    rw [List.length_map] at hj
    rw [getD_er ks (by omega), getD_er ks (by omega)]
    exact h j (by omega)
  · intro h j hj
    have := h j (by rw [List.length_map]; omega)
    rwa [getD_er ks (by omega), getD_er ks (by omega)] at this
theorem fits_step2 {p : List Nat} {ks : List AT} {i : Nat} (h : ∀ j, j < i → Fits p (er (ks.getD j default))) (h2 : Fits p (er (ks.getD i default))) : ∀ j, j < i + 1 → Fits p (er (ks.getD j default)) := fun j hj => by
  rcases Nat.lt_or_ge j i with c | c
  · exact h j c
  · obtain rfl : j = i := by omega
    exact h2
structure AlwH (p : List Nat) (t : AT) : Prop where
  nd : p.Nodup
  fit : Fit t
  nl : (lvs (er t)).Nodup
  sub : ∀ x ∈ lvs (er t), x ∈ p
theorem AlwH.kid {p : List Nat} {t k : AT} (h : AlwH p t) (hk : k ∈ t.kids) : AlwH p k := by
  have h0 : t.kids.length ≠ 0 := fun e => by rw [List.length_eq_zero_iff.1 e] at hk; cases hk
  have hn := h.nl
  rw [er_kn h0, lvs_nd] at hn
  exact ⟨h.nd, fitK h.fit k hk, kid_nodup hn _ (List.mem_map_of_mem hk), fun x hx => h.sub x (by rw [er_kn h0, lvs_nd]; exact List.mem_flatMap.2 ⟨er k, List.mem_map_of_mem hk, hx⟩)⟩
theorem AlwH.apart {p : List Nat} {t : AT} (h : AlwH p t) {i : Nat} (h0 : 0 < i) (hi : i < t.kids.length) : ∀ x ∈ lvs (er (t.kids.getD (i - 1) default)), x ∉ lvs (er (t.kids.getD i default)) := fun x hx hx' => by
  have hn := h.nl
  rw [er_kn (by omega), lvs_nd, splitA hi, List.flatMap_append, List.nodup_append] at hn
  refine hn.2.2 x (List.mem_flatMap.2 ⟨er (t.kids.getD (i - 1) default), List.mem_map_of_mem ?_, hx⟩) x (List.mem_flatMap.2 ⟨_, List.mem_cons_self, hx'⟩) rfl
  have e : (t.kids.take i).getD (i - 1) default = t.kids.getD (i - 1) default := by
    rw [List.getD_eq_getElem?_getD, List.getElem?_take, if_pos (by omega), List.getD_eq_getElem?_getD]
  rw [← e]
  exact at_mem (by rw [List.length_take]; omega)
theorem AlwH.fits {p : List Nat} {t : AT} (h : AlwH p t) (h0 : t.kids.length ≠ 0) {lo hi : Nat} (hR : Rch p (lvs (er t)) lo hi) :
    Fits p (er t) ↔ hi - lo + 1 = (lvs (er t)).length ∧ (∀ k ∈ t.kids, Fits p (er k)) ∧ (t.line = false ∨ chain p (t.kids.map er) ∨ down p (t.kids.map er)) := by
  have h1 := h.fit.ok; have h2 := h.nl; have h3 := h.sub
  rw [er_kn h0] at *
  rw [fits_nd h.nd h1 h2 h3 hR]
  constructor
  · rintro ⟨a, b, c⟩; exact ⟨a, fun k hk => b _ (List.mem_map_of_mem hk), c⟩
  · rintro ⟨a, b, c⟩
    refine ⟨a, fun k hk => ?_, c⟩
    obtain ⟨x, hx, rfl⟩ := List.mem_map.1 hk
    exact b x hx
theorem AlwH.done {p : List Nat} {t : AT} (h : AlwH p t) (h0 : t.kids.length ≠ 0) {lo hi i : Nat} (hR : Rch p (lvs (er t)) lo hi) (hc : hi - lo + 1 = (lvs (er t)).length) (hi' : i = t.kids.length) (hk : ∀ j, j < i → Fits p (er (t.kids.getD j default))) {u d b : Bool} (hu : u = true ↔ upI p t.kids i) (hd : d = true ↔ dnI p t.kids i)
    (hb : b = true ↔ (t.line = false ∨ u = true ∨ d = true)) : b = true ↔ Fits p (er t) := by
  rw [hb, h.fits h0 hR, hu, hd, chain_up hi', chain_dn hi']
  constructor
  · intro hq
    refine ⟨hc, fun k hk' => ?_, hq⟩
    obtain ⟨j, hj, rfl⟩ := List.mem_iff_getElem.1 hk'
    have := hk j (by omega)
    rwa [List.getD_eq_getElem?_getD, List.getElem?_eq_getElem hj] at this
  · exact fun hq => hq.2.2
theorem AlwH.bad {p : List Nat} {t : AT} (h : AlwH p t) (h0 : t.kids.length ≠ 0) {lo hi : Nat} (hR : Rch p (lvs (er t)) lo hi) (hc : hi - lo + 1 ≠ (lvs (er t)).length) : ¬ Fits p (er t) := fun hF => hc ((h.fits h0 hR).1 hF).1
theorem AlwH.no {p : List Nat} {t : AT} (h : AlwH p t) {lo hi i : Nat} (hR : Rch p (lvs (er t)) lo hi) (hi' : i < t.kids.length) (hn : ¬ Fits p (er (t.kids.getD i default))) : ¬ Fits p (er t) := fun hF => hn (((h.fits (by omega) hR).1 hF).2.1 _ (at_mem hi'))
end Go.Fw.Pq
