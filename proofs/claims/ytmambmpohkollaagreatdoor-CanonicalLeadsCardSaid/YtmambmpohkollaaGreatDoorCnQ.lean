/- Chapter 16: maps of matrices one after the other and back; graphs are alike exactly if their codes are the same, and their names. Plain. -/
import Derived.Test.YtmambmpohkollaaGreatDoorCnT
import Derived.Laws.Strings
namespace Go.Fw.Cn
open Go Go.RowKit Go.Fw
theorem getN_eq {l : List Nat} {i : Nat} (h : i < l.length) : l.getD i 0 = l[i] := by rw [List.getD_eq_getElem?_getD, List.getElem?_eq_getElem h]; rfl
theorem flatMap_inj {α β γ : Type} {f : α → List γ} {g : β → List γ} {c : Nat} : ∀ {l : List α} {m : List β}, l.length = m.length → (∀ a ∈ l, (f a).length = c) → (∀ b ∈ m, (g b).length = c) → l.flatMap f = m.flatMap g → ∀ i (h1 : i < l.length) (h2 : i < m.length), f l[i] = g m[i]
  | [], _, _, _, _, _, i, h1, _ => absurd h1 (Nat.not_lt_zero i)
  | _ :: _, [], h, _, _, _, _, _, _ => by cases h
  | a :: l, b :: m, hl, hf, hg, he, i, h1, h2 => by
    rw [List.flatMap_cons, List.flatMap_cons] at he
    obtain ⟨e1, e2⟩ := List.append_inj he (by rw [hf a List.mem_cons_self, hg b List.mem_cons_self])
    cases i with
    | zero => exact e1
    | succ i => exact flatMap_inj (l := l) (m := m) (by simpa using hl) (fun x hx => hf x (List.mem_cons_of_mem _ hx)) (fun x hx => hg x (List.mem_cons_of_mem _ hx)) e2 i _ _
theorem flatMap_ext' {α β γ : Type} {f : α → List γ} {g : β → List γ} : ∀ {l : List α} {m : List β}, l.length = m.length → (∀ i (h1 : i < l.length) (h2 : i < m.length), f l[i] = g m[i]) → l.flatMap f = m.flatMap g
  | [], [], _, _ => rfl
  | [], _ :: _, h, _ => by cases h
  | _ :: _, [], h, _ => by cases h
  | a :: l, b :: m, hl, he => by
    rw [List.flatMap_cons, List.flatMap_cons, show f a = g b from he 0 (by simp) (by simp), flatMap_ext' (l := l) (m := m) (by simpa using hl) fun i h1 h2 => he (i + 1) (by simpa using h1) (by simpa using h2)]
theorem wrB_eq {X Y : List (List Int)} {p p' q q' : List Nat} (hl : p.length = p'.length) (hq : q.length = q'.length) : wrB X p q = wrB Y p' q' ↔ ∀ i, i < p.length → ∀ k, k < q.length → en X (p.getD i 0) (q.getD k 0) = en Y (p'.getD i 0) (q'.getD k 0) := by
  constructor
  · intro h i hi k hk
    have h1 := flatMap_inj (c := q.length) hl (fun _ _ => List.length_map _) (fun _ _ => by rw [List.length_map, hq]) h i hi (by omega)
    have h2 := List.getElem_of_eq h1 (show k < _ by rw [List.length_map]; exact hk)
    rw [List.getElem_map, List.getElem_map] at h2
    rw [getN_eq hi, getN_eq hk, getN_eq (by omega), getN_eq (by omega)]; exact h2
  · intro h
    refine flatMap_ext' hl fun i h1 h2 => List.ext_getElem (by rw [List.length_map, List.length_map, hq]) fun k h3 h4 => ?_
    rw [List.length_map] at h3
    rw [List.getElem_map, List.getElem_map]
    have := h i h1 k h3
    rwa [getN_eq h1, getN_eq h3, getN_eq h2, getN_eq (by omega)] at this
theorem wr_eq {X Y : List (List Int)} {p p' q q' : List Nat} (hl : p.length = p'.length) (hq : q.length = q'.length) : wr X p q = wr Y p' q' ↔ ∀ i, i < p.length → ∀ k, k < q.length → en X (p.getD i 0) (q.getD k 0) = en Y (p'.getD i 0) (q'.getD k 0) := by
  rw [← wrB_eq hl hq]
  unfold wr
  rw [hl, hq]
  exact ⟨fun h => (List.cons.inj (List.cons.inj h).2).2, fun h => by rw [h]⟩
theorem range_getD {n i : Nat} (h : i < n) : (List.range n).getD i 0 = i := by rw [getN_eq (by rw [List.length_range]; exact h), List.getElem_range]
theorem mp_iff {X Y : List (List Int)} {w : Nat} {p q : List Nat} (hp : Pre X.length X.length p) (hq : Pre w w q) : mp X Y w p q ↔ ∀ i, i < X.length → ∀ k, k < w → en Y (p.getD i 0) (q.getD k 0) = en X i k := by
  unfold mp
  rw [wr_eq (by rw [hp.len, List.length_range]) (by rw [hq.len, List.length_range]), hp.len, hq.len]
  exact ⟨fun h i hi k hk => by have := h i hi k hk; rwa [range_getD hi, range_getD hk] at this, fun h i hi k hk => by rw [range_getD hi, range_getD hk]; exact h i hi k hk⟩
/-! ## Orders one after the other -/
def cmpo (p p' : List Nat) : List Nat := p'.map fun i => p.getD i 0
def invo (n : Nat) (p : List Nat) : List Nat := (List.range n).map fun v => p.idxOf v
section
variable {n : Nat} {p p' : List Nat}
theorem Pre.get (h : Pre n n p) {i : Nat} (hi : i < n) : p.getD i 0 < n := by
  rw [getN_eq (by rw [h.len]; exact hi)]; exact h.lt _ (List.getElem_mem _)
theorem Pre.inj (h : Pre n n p) {i j : Nat} (hi : i < n) (hj : j < n) (e : p.getD i 0 = p.getD j 0) : i = j := by
  rw [getN_eq (by rw [h.len]; exact hi), getN_eq (by rw [h.len]; exact hj)] at e
  exact (List.getElem_inj h.nd).1 e
theorem cmpo_get {i : Nat} (h : i < p'.length) : (cmpo p p').getD i 0 = p.getD (p'.getD i 0) 0 := by
  unfold cmpo
  rw [getN_eq (by rw [List.length_map]; exact h), List.getElem_map, getN_eq h]
theorem Pre.of {m : List Nat} (hl : m.length = n) (hlt : ∀ i, i < n → m.getD i 0 < n) (hinj : ∀ i j, i < n → j < n → m.getD i 0 = m.getD j 0 → i = j) : Pre n n m :=
  ⟨hl, List.pairwise_iff_getElem.2 fun i j hi hj hij e => by
    have := hinj i j (by omega) (by omega) (by rw [getN_eq hi, getN_eq hj]; exact e)
    omega, fun v hv => by
    obtain ⟨i, hi, rfl⟩ := List.mem_iff_getElem.1 hv
    have := hlt i (by omega)
    rwa [getN_eq hi] at this⟩
theorem cmpo_pre (h : Pre n n p) (h' : Pre n n p') : Pre n n (cmpo p p') :=
  Pre.of (by unfold cmpo; rw [List.length_map, h'.len]) (fun i hi => by rw [cmpo_get (by rw [h'.len]; exact hi)]; exact h.get (h'.get hi)) fun i j hi hj e => by
    rw [cmpo_get (by rw [h'.len]; exact hi), cmpo_get (by rw [h'.len]; exact hj)] at e
    exact h'.inj hi hj (h.inj (h'.get hi) (h'.get hj) e)
theorem Pre.mem (h : Pre n n p) {v : Nat} (hv : v < n) : v ∈ p := h.perm.mem_iff.2 (List.mem_range.2 hv)
theorem invo_get {v : Nat} (hv : v < n) : (invo n p).getD v 0 = p.idxOf v := by
  unfold invo
  rw [getN_eq (by rw [List.length_map, List.length_range]; exact hv), List.getElem_map, List.getElem_range]
theorem invo_len : (invo n p).length = n := by unfold invo; rw [List.length_map, List.length_range]
theorem invo_right (h : Pre n n p) {v : Nat} (hv : v < n) : p.getD ((invo n p).getD v 0) 0 = v := by
  have := List.idxOf_lt_length_of_mem (h.mem hv)
  rw [invo_get hv, getN_eq this, List.getElem_idxOf]
theorem invo_lt (h : Pre n n p) {v : Nat} (hv : v < n) : (invo n p).getD v 0 < n := by
  have := List.idxOf_lt_length_of_mem (h.mem hv)
  rw [invo_get hv]; rw [h.len] at this; exact this
theorem invo_pre (h : Pre n n p) : Pre n n (invo n p) := Pre.of invo_len (fun _ hi => invo_lt h hi) fun i j hi hj e => by rw [← invo_right h hi, ← invo_right h hj, e]
theorem invo_left (h : Pre n n p) {i : Nat} (hi : i < n) : (invo n p).getD (p.getD i 0) 0 = i := h.inj (invo_lt h (h.get hi)) hi (invo_right h (h.get hi))
end
/-! ## Maps one after the other -/
section
variable {X Y Z : List (List Int)} {w : Nat} {p q p' q' : List Nat}
theorem mp_back (hXY : X.length = Y.length) (hp : Pre X.length X.length p) (hq : Pre w w q) (h : mp X Y w p q) : mp Y X w (invo X.length p) (invo w q) := by
  rw [mp_iff (by rw [← hXY]; exact invo_pre hp) (invo_pre hq)]
  intro i hi k hk
  rw [← hXY] at hi
  have := (mp_iff hp hq).1 h _ (invo_lt hp hi) _ (invo_lt hq hk)
  rw [invo_right hp hi, invo_right hq hk] at this
  exact this.symm
theorem mp_then (hXY : X.length = Y.length) (hp : Pre X.length X.length p) (hq : Pre w w q) (h : mp X Y w p q) (hp' : Pre X.length X.length p') (hq' : Pre w w q') (h' : mp Y Z w p' q') : mp X Z w (cmpo p' p) (cmpo q' q) := by
  rw [mp_iff (cmpo_pre hp' hp) (cmpo_pre hq' hq)]
  intro i hi k hk
  rw [cmpo_get (by rw [hp.len]; exact hi), cmpo_get (by rw [hq.len]; exact hk), (mp_iff (by rw [← hXY]; exact hp') hq').1 h' _ (by rw [← hXY]; exact hp.get hi) _ (hq.get hk), (mp_iff hp hq).1 h i hi k hk]
theorem mp_wr (hp : Pre X.length X.length p) (hq : Pre w w q) (h : mp X Y w p q) (hp' : Pre X.length X.length p') (hq' : Pre w w q') : wr Y (cmpo p p') (cmpo q q') = wr X p' q' := by
  have l1 : (cmpo p p').length = p'.length := List.length_map _
  have l2 : (cmpo q q').length = q'.length := List.length_map _
  rw [wr_eq l1 l2, l1, l2]
  intro i hi k hk
  rw [cmpo_get hi, cmpo_get hk]
  rw [hp'.len] at hi; rw [hq'.len] at hk
  exact (mp_iff hp hq).1 h _ (hp'.get hi) _ (hq'.get hk)
theorem code_le {B B' : List Int} (hXY : X.length = Y.length) (hp : Pre X.length X.length p) (hq : Pre w w q) (h : mp X Y w p q) (hB : IsCode X w B) (hB' : IsCode Y w B') : leL B' B := by
  obtain ⟨⟨p1, q1, h1, h2, rfl⟩, _⟩ := hB
  rw [← mp_wr hp hq h h1 h2]
  exact hB'.2 _ _ (by rw [← hXY]; exact cmpo_pre hp h1) (cmpo_pre hq h2)
theorem code_same {B B' : List Int} (hXY : X.length = Y.length) (hp : Pre X.length X.length p) (hq : Pre w w q) (h : mp X Y w p q) (hB : IsCode X w B) (hB' : IsCode Y w B') : B = B' :=
  (code_le hXY.symm (by rw [← hXY]; exact invo_pre hp) (invo_pre hq) (mp_back hXY hp hq h) hB' hB).anti (code_le hXY hp hq h hB hB')
theorem code_mp {B : List Int} (hXY : X.length = Y.length) (hB : IsCode X w B) (hB' : IsCode Y w B) : ∃ p q, Pre X.length X.length p ∧ Pre w w q ∧ mp X Y w p q := by
  obtain ⟨⟨p1, q1, h1, h2, e1⟩, _⟩ := hB
  obtain ⟨⟨p2, q2, h3, h4, e2⟩, _⟩ := hB'
  rw [← hXY] at h3
  have he := (wr_eq (by rw [h1.len, h3.len]) (by rw [h2.len, h4.len])).1 (e1.symm.trans e2)
  rw [h1.len, h2.len] at he
  refine ⟨cmpo p2 (invo X.length p1), cmpo q2 (invo w q1), cmpo_pre h3 (invo_pre h1), cmpo_pre h4 (invo_pre h2), (mp_iff (cmpo_pre h3 (invo_pre h1)) (cmpo_pre h4 (invo_pre h2))).2 fun i hi k hk => ?_⟩
  rw [cmpo_get (by rw [invo_len]; exact hi), cmpo_get (by rw [invo_len]; exact hk), ← he _ (invo_lt h1 hi) _ (invo_lt h2 hk), invo_right h1 hi, invo_right h2 hk]
theorem mp_id : mp X X w (List.range X.length) (List.range w) := rfl
/-! ## How many maps to itself -/
theorem ordF_nodup (n : Nat) : ∀ k, (ordF n k).Nodup
  | 0 => by rw [ordF]; exact List.nodup_cons.2 ⟨by simp, List.nodup_nil⟩
  | k + 1 => by
    rw [ordF]
    refine List.pairwise_flatMap.2 ⟨fun p _ => ?_, (ordF_nodup n k).imp fun {p p'} hne x hx y hy e => ?_⟩
    · unfold ext
      refine List.pairwise_map.2 ((List.nodup_range.filter _).imp fun {a b} hab e => hab ?_)
      have := List.append_cancel_left e
      simpa using this
    · obtain ⟨v, _, _, rfl⟩ := mem_ext.1 hx
      obtain ⟨v', _, _, rfl⟩ := mem_ext.1 hy
      exact hne (List.append_inj_left' e rfl)
def symL (X : List (List Int)) (w : Nat) : List (List Nat × List Nat) := (ordF X.length X.length).flatMap fun p => ((ordF w w).filter fun q => decide (mp X X w p q)).map fun q => (p, q)
theorem symL_len (X : List (List Int)) (w : Nat) : (symL X w).length = nM X X w := by
  unfold symL nM
  rw [List.length_flatMap]
  congr 1
  exact List.map_congr_left fun p _ => List.length_map _
theorem mem_symL {x : List Nat × List Nat} : x ∈ symL X w ↔ Pre X.length X.length x.1 ∧ Pre w w x.2 ∧ mp X X w x.1 x.2 := by
  unfold symL
  rw [List.mem_flatMap]
  constructor
  · rintro ⟨p, hp, h⟩
    obtain ⟨q, hq, rfl⟩ := List.mem_map.1 h
    obtain ⟨h1, h2⟩ := List.mem_filter.1 hq
    exact ⟨mem_ordF.1 hp, mem_ordF.1 h1, of_decide_eq_true h2⟩
  · rintro ⟨h1, h2, h3⟩
    exact ⟨x.1, mem_ordF.2 h1, List.mem_map.2 ⟨x.2, List.mem_filter.2 ⟨mem_ordF.2 h2, decide_eq_true h3⟩, rfl⟩⟩
theorem symL_nodup (X : List (List Int)) (w : Nat) : (symL X w).Nodup := by
  refine List.pairwise_flatMap.2 ⟨fun p _ => ?_, (ordF_nodup _ _).imp fun {p p'} hne x hx y hy e => ?_⟩
  · exact List.pairwise_map.2 (((ordF_nodup w w).filter _).imp fun {a b} hab e => hab (Prod.mk.inj e).2)
  · obtain ⟨_, _, rfl⟩ := List.mem_map.1 hx
    obtain ⟨_, _, rfl⟩ := List.mem_map.1 hy
    exact hne (Prod.mk.inj e).1
theorem sub_lenG {α : Type} [DecidableEq α] {l m : List α} (nd : l.Nodup) (hs : ∀ x ∈ l, x ∈ m) : l.length ≤ m.length := by
  induction l generalizing m with
  | nil => exact Nat.zero_le _
  | cons a l ih =>
    obtain ⟨h1, h2⟩ := List.nodup_cons.1 nd
    have ha := hs a List.mem_cons_self
    have := ih (m := m.erase a) h2 fun x hx => (List.mem_erase_of_ne fun e : x = a => h1 (e ▸ hx)).2 (hs x (List.mem_cons_of_mem _ hx))
    rw [List.length_erase_of_mem ha] at this
    have := List.length_pos_of_mem ha
    rw [List.length_cons]; omega
theorem ext_of {n : Nat} (hp : Pre n n p) (hp' : Pre n n p') (h : ∀ i, i < n → p.getD i 0 = p'.getD i 0) : p = p' :=
  List.ext_getElem (by rw [hp.len, hp'.len]) fun i h1 h2 => by
    have := h i (by rw [← hp.len]; exact h1)
    rwa [getN_eq h1, getN_eq h2] at this
/-- The map of X to itself as one of Y. -/
def cnj (n : Nat) (p a : List Nat) : List Nat := cmpo (cmpo p a) (invo n p)
theorem cnj_pre {n : Nat} {a : List Nat} (hp : Pre n n p) (ha : Pre n n a) : Pre n n (cnj n p a) := cmpo_pre (cmpo_pre hp ha) (invo_pre hp)
theorem cnj_inj {n : Nat} {a b : List Nat} (hp : Pre n n p) (ha : Pre n n a) (hb : Pre n n b) (e : cnj n p a = cnj n p b) : a = b := by
  refine ext_of ha hb fun i hi => ?_
  have h1 := congrArg (fun l => l.getD (p.getD i 0) 0) e
  have hg : ∀ {c : List Nat}, Pre n n c → (cnj n p c).getD (p.getD i 0) 0 = p.getD (c.getD i 0) 0 := fun {c} hc => by
    unfold cnj
    rw [cmpo_get (by rw [invo_len]; exact hp.get hi), invo_left hp hi, cmpo_get (by rw [hc.len]; exact hi)]
  have h2 : (cnj n p a).getD (p.getD i 0) 0 = (cnj n p b).getD (p.getD i 0) 0 := h1
  rw [hg ha, hg hb] at h2
  exact hp.inj (ha.get hi) (hb.get hi) h2
theorem nM_le_of (hXY : X.length = Y.length) (hp : Pre X.length X.length p) (hq : Pre w w q) (h : mp X Y w p q) : nM X X w ≤ nM Y Y w := by
  rw [← symL_len, ← symL_len]
  have h1 : ((symL X w).map fun x => (cnj X.length p x.1, cnj w q x.2)).length = (symL X w).length := List.length_map _
  rw [← h1]
  refine sub_lenG (List.pairwise_map.2 ?_) fun y hy => ?_
  · refine List.Pairwise.imp_of_mem ?_ (symL_nodup X w)
    intro a b ha hb hab e
    obtain ⟨a1, a2, _⟩ := mem_symL.1 ha
    obtain ⟨b1, b2, _⟩ := mem_symL.1 hb
    obtain ⟨e1, e2⟩ := Prod.mk.inj e
    exact hab (Prod.ext (cnj_inj hp a1 b1 e1) (cnj_inj hq a2 b2 e2))
  · obtain ⟨x, hx, rfl⟩ := List.mem_map.1 hy
    obtain ⟨a1, a2, a3⟩ := mem_symL.1 hx
    refine mem_symL.2 ⟨by rw [← hXY]; exact cnj_pre hp a1, cnj_pre hq a2, ?_⟩
    have b1 := mp_back hXY hp hq h
    have b2 := mp_then rfl a1 a2 a3 hp hq h
    have b3 := mp_then (X := Y) (Y := X) (Z := Y) hXY.symm (by rw [← hXY]; exact invo_pre hp) (invo_pre hq) b1 (by rw [← hXY]; exact cmpo_pre hp a1) (cmpo_pre hq a2) b2
    exact b3
theorem nM_same (hXY : X.length = Y.length) (hp : Pre X.length X.length p) (hq : Pre w w q) (h : mp X Y w p q) : nM X X w = nM Y Y w :=
  Nat.le_antisymm (nM_le_of hXY hp hq h) (nM_le_of hXY.symm (by rw [← hXY]; exact invo_pre hp) (invo_pre hq) (mp_back hXY hp hq h))
theorem nM_pos : 1 ≤ nM X X w := by
  rw [← symL_len]
  exact List.length_pos_of_mem (mem_symL.2 ⟨pre_range _, pre_range _, mp_id⟩ : (List.range X.length, List.range w) ∈ symL X w)
end
/-! ## Graphs that are alike -/
section
variable {O R O2 R2 : List Int} {K K2 : List Lk} {o : Option (List Nat × List Nat)} {e : Int} {B B2 : List Int}
theorem code_dims (h : IsCode (matG O R K) R.length B) : ∃ E, B = (O.length : Int) :: (R.length : Int) :: E := by
  obtain ⟨⟨p, q, hp, hq, rfl⟩, _⟩ := h
  rw [matG_len] at hp
  exact ⟨wrB _ p q, by unfold wr; rw [hp.len, hq.len]⟩
theorem mErr_0 : mErr o = 0 ↔ o ≠ none := by
  cases o with
  | none => exact ⟨fun h => absurd h (by decide), fun h => absurd rfl h⟩
  | some x => exact ⟨fun _ => by simp, fun _ => rfl⟩
theorem alike_map (h1 : errG O R K = 0) (h2 : errG O2 R2 K2 = 0) (hM : MapS O R K O2 R2 K2 o e) : e = 0 ↔ O.length = O2.length ∧ R.length = R2.length ∧ ∃ p q, Pre (matG O R K).length (matG O R K).length p ∧ Pre R.length R.length q ∧ mp (matG O R K) (matG O2 R2 K2) R.length p q := by
  obtain ⟨v1, b1, b2⟩ := errG_0.1 h1
  obtain ⟨v2, b3, b4⟩ := errG_0.1 h2
  rcases hM with ⟨a, _, _⟩ | ⟨_, _, a, _, _⟩ | ⟨_, _, _, _, a, _, rfl⟩ | ⟨_, _, _, _, a5, a6, b, rfl⟩
  · exact absurd ⟨v1, v2⟩ a
  · unfold bigG at a; omega
  · exact ⟨fun h => absurd h (by decide), fun h => by omega⟩
  · rw [mErr_0, Ne, b.none_iff]
    constructor
    · intro h
      refine ⟨a5, a6, Classical.byContradiction fun hn => h fun p q hp hq hm => hn ⟨p, q, hp, hq, hm⟩⟩
    · rintro ⟨_, _, p, q, hp, hq, hm⟩ h
      exact h p q hp hq hm
theorem alike_code (h1 : errG O R K = 0) (h2 : errG O2 R2 K2 = 0) (hB : IsCode (matG O R K) R.length B) (hB2 : IsCode (matG O2 R2 K2) R2.length B2) (hM : MapS O R K O2 R2 K2 o e) : e = 0 ↔ B = B2 := by
  rw [alike_map h1 h2 hM]
  constructor
  · rintro ⟨e1, e2, p, q, hp, hq, hm⟩
    rw [← e2] at hB2
    exact code_same (by rw [matG_len, matG_len, e1]) hp hq hm hB hB2
  · rintro rfl
    obtain ⟨E, d1⟩ := code_dims hB
    obtain ⟨E2, d2⟩ := code_dims hB2
    rw [d1] at d2
    obtain ⟨d3, d4⟩ := List.cons.inj d2
    have e1 : O.length = O2.length := by omega
    have e2 : R.length = R2.length := by have := (List.cons.inj d4).1; omega
    refine ⟨e1, e2, ?_⟩
    rw [← e2] at hB2
    exact code_mp (by rw [matG_len, matG_len, e1]) hB hB2
theorem alike_no (h : errG O R K ≠ 0 ∨ errG O2 R2 K2 ≠ 0) (hM : MapS O R K O2 R2 K2 o e) : e ≠ 0 := by
  intro he
  rcases hM with ⟨_, _, a⟩ | ⟨_, _, _, _, a⟩ | ⟨_, _, _, _, _, _, a⟩ | ⟨v1, v2, b1, b2, _, _, _, _⟩
  · omega
  · omega
  · omega
  · exact h.elim (fun h => h (errG_ok v1 b1)) (fun h => h (errG_ok v2 b2))
theorem name_code {T T2 : List UInt8} (h1 : errG O R K = 0) (h2 : errG O2 R2 K2 = 0) (hB : IsCode (matG O R K) R.length B) (hB2 : IsCode (matG O2 R2 K2) R2.length B2) (hT : ∃ B, IsCode (matG O R K) R.length B ∧ T = nameT O.length R.length (B.drop 2)) (hT2 : ∃ B, IsCode (matG O2 R2 K2) R2.length B ∧ T2 = nameT O2.length R2.length (B.drop 2)) : T = T2 ↔ B = B2 := by
  obtain ⟨v1, b1, b2⟩ := errG_0.1 h1
  obtain ⟨v2, b3, b4⟩ := errG_0.1 h2
  obtain ⟨B', hB', rfl⟩ := hT
  obtain ⟨B2', hB2', rfl⟩ := hT2
  obtain rfl := hB'.uniq hB
  obtain rfl := hB2'.uniq hB2
  obtain ⟨o1, _, _, l1⟩ := code_okE v1.2.2.1 hB
  obtain ⟨o2, _, _, l2⟩ := code_okE v2.2.2.1 hB2
  obtain ⟨E, d1⟩ := code_dims hB
  obtain ⟨E2, d2⟩ := code_dims hB2
  constructor
  · intro h
    obtain ⟨e1, e2, e3⟩ := nameT_inj (by omega) (by omega) (by omega) (by omega) l1 l2 o1 o2 h
    rw [d1, d2] at e3 ⊢
    have e3 : E = E2 := e3
    rw [e1, e2, e3]
  · intro h
    rw [d1, d2] at h
    obtain ⟨d3, d4⟩ := List.cons.inj h
    have e1 : O.length = O2.length := by omega
    have e2 : R.length = R2.length := by have := (List.cons.inj d4).1; omega
    have e3 : E = E2 := (List.cons.inj d4).2
    rw [d1, d2, e1, e2, e3]
theorem alike_syms (h1 : errG O R K = 0) (h2 : errG O2 R2 K2 = 0) (hM : MapS O R K O2 R2 K2 o e) (he : e = 0) : nM (matG O R K) (matG O R K) R.length = nM (matG O2 R2 K2) (matG O2 R2 K2) R2.length := by
  obtain ⟨e1, e2, p, q, hp, hq, hm⟩ := (alike_map h1 h2 hM).1 he
  rw [← e2]
  exact nM_same (by rw [matG_len, matG_len, e1]) hp hq hm
end
/-! ## The document's example -/
def PK : List Lk := [⟨3, 1, 4⟩, ⟨5, 3, 4⟩, ⟨7, 1, 2⟩]
theorem ex_err : errG [1, 3] [2, 4] PK = 0 := by decide
theorem ex_code {B : List Int} (h : IsCode (matG [1, 3] [2, 4] PK) ([2, 4] : List Int).length B) : B = [2, 2, 0, 1, 1, 1] := by
  obtain ⟨B', h1, h2⟩ := cdS_all (matG [1, 3] [2, 4] PK) 2
  have h3 : foldS (cdS (matG [1, 3] [2, 4] PK) 2) [] (ordF (matG [1, 3] [2, 4] PK).length (matG [1, 3] [2, 4] PK).length) = ([2, 2, 0, 1, 1, 1], true) := by decide +kernel
  rw [h1] at h3
  rw [IsCode.uniq h h2]
  exact congrArg Prod.fst h3
theorem ex_name {T : List UInt8} (h : ∃ B, IsCode (matG [1, 3] [2, 4] PK) ([2, 4] : List Int).length B ∧ T = nameT ([1, 3] : List Int).length ([2, 4] : List Int).length (B.drop 2)) : T = [50, 120, 50, 58, 48, 49, 47, 49, 49] := by
  obtain ⟨B, hB, rfl⟩ := h
  rw [ex_code hB]
  have e0 : dd 0 = [48] := Lib.decDigits_one (by decide)
  have e1 : dd 1 = [49] := Lib.decDigits_one (by decide)
  have e2 : dd 2 = [50] := Lib.decDigits_one (by decide)
  have n0 : ent 0 = dd 0 := rfl
  have n1 : ent 1 = dd 1 := rfl
  have r0 : rowT [0, 1] = [48, 49] := by show ent 0 ++ (ent 1 ++ []) = _; rw [n0, n1, e0, e1]; rfl
  have r1 : rowT [1, 1] = [49, 49] := by show ent 1 ++ (ent 1 ++ []) = _; rw [n1, e1]; rfl
  show dd 2 ++ [120] ++ dd 2 ++ [58] ++ (rowT [0, 1] ++ [47] ++ rowT [1, 1]) = _
  rw [e2, r0, r1]; rfl
theorem ex_sym : nM (matG [1, 3] [2, 4] PK) (matG [1, 3] [2, 4] PK) ([2, 4] : List Int).length = 1 := by decide +kernel
/-- Graphs with at most four dies of a side, or with more than six of one. -/
def fewG (O R : List Int) (K : List Lk) : Prop := O.length ≤ 40 ∧ R.length ≤ 40 ∧ K.length ≤ 70 ∧ (O.length ≤ 4 ∧ R.length ≤ 4 ∨ 6 < O.length ∨ 6 < R.length)
instance (O R : List Int) (K : List Lk) : Decidable (fewG O R K) := by unfold fewG; infer_instance
theorem bs_list (l : List UInt8) : (bs l).toList = l := by rw [ByteArray.toList_eq]
theorem bs_beq_true {a b : List UInt8} (h : a = b) : ((bs a).toList == (bs b).toList) = true := by rw [h]; exact beq_self_eq_true _
theorem bs_beq_false {a b : List UInt8} (h : a ≠ b) : ((bs a).toList == (bs b).toList) = false := by rw [bs_list, bs_list]; exact beq_eq_false_iff_ne.2 h
end Go.Fw.Cn
