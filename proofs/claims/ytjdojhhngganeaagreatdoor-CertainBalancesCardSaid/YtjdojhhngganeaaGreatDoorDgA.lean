/- Chapter 24: digraphs, what reaches what, as numbers whose bits are vertices. Plain. -/
import Derived.Test.YtjdojhhngganeaaGreatDoorCcB
import Derived.Test.YtjdojhhngganeaaGreatDoorFwU
namespace Go.Fw
open Go Go.RowKit

/-! ## Digraphs -/
def arcAt (n : Int) (a : List Pr) (i : Nat) : Prop := ((0 ≤ (a.getD i dP).1 ∧ (a.getD i dP).1 < n) ∧ (0 ≤ (a.getD i dP).2 ∧ (a.getD i dP).2 < n) ∧ (a.getD i dP).1 ≠ (a.getD i dP).2) ∧ (0 < i → ltP (a.getD (i - 1) dP) (a.getD i dP))
instance (n : Int) (a : List Pr) (i : Nat) : Decidable (arcAt n a i) := by unfold arcAt; infer_instance
def dgC (n : Int) (a : List Pr) : Prop := (0 ≤ n ∧ n ≤ 24) ∧ ∀ i, i < a.length → arcAt n a i
instance (n : Int) (a : List Pr) : Decidable (dgC n a) := by unfold dgC; infer_instance
theorem dgC_no {n : Int} {a : List Pr} {i : Nat} (hi : i < a.length) (h : ¬ arcAt n a i) : decide (dgC n a) = false := decide_eq_false fun e => h (e.2 i hi)
theorem arcNext {n : Int} {a : List Pr} {i : Nat} (h : ∀ j, j < i → arcAt n a j) (hi : arcAt n a i) : ∀ j, j < i + 1 → arcAt n a j := fun j hj => by
  by_cases e : j = i
  · subst e; exact hi
  · exact h j (by omega)
/-- One arc's ends as places. -/
theorem dgC.at {n : Int} {a : List Pr} (h : dgC n a) {i : Nat} (hi : i < a.length) : ∃ f t : Nat, a.getD i dP = ((f : Int), (t : Int)) ∧ (f : Int) < n ∧ (t : Int) < n ∧ f ≠ t := by
  obtain ⟨⟨h1, h2, h3⟩, _⟩ := h.2 i hi
  refine ⟨(a.getD i dP).1.toNat, (a.getD i dP).2.toNat, Prod.ext (by simp only; omega) (by simp only; omega), by omega, by omega, by omega⟩

/-! ## Sets -/
theorem or_lt (n : Nat) {a b : Nat} (ha : a < 2 ^ n) (hb : b < 2 ^ n) : a ||| b < 2 ^ n := Nat.or_lt_two_pow ha hb
theorem pow_lt (n : Nat) {v : Nat} (h : v < n) : 2 ^ v < 2 ^ n := Nat.pow_lt_pow_right (by decide) h
theorem lt24 {n a : Nat} (hn : n ≤ 24) (h : a < 2 ^ n) : a < 4294967296 := Nat.lt_of_lt_of_le h (Nat.le_trans (Nat.pow_le_pow_right (by decide) hn) (by decide))
abbrev bnd (n : Nat) (r : List Nat) : Prop := ∀ i, r.getD i 0 < 2 ^ n
theorem getD_set (r : List Nat) (i j x : Nat) : (r.set i x).getD j 0 = if i = j ∧ j < r.length then x else r.getD j 0 := by
  rw [List.getD_eq_getElem?_getD, List.getD_eq_getElem?_getD, List.getElem?_set]
  by_cases h : i = j
  · subst h
    by_cases h2 : i < r.length
    · rw [if_pos rfl, if_pos h2, if_pos ⟨rfl, h2⟩]; rfl
    · rw [if_pos rfl, if_neg h2, if_neg (fun e => h2 e.2), List.getElem?_eq_none (by omega)]
  · rw [if_neg h, if_neg (fun e => h e.1)]
theorem bnd_set {n : Nat} {r : List Nat} (h : bnd n r) {i x : Nat} (hx : x < 2 ^ n) : bnd n (r.set i x) := fun j => by
  rw [getD_set]; split
  · exact hx
  · exact h j
theorem bnd_zero (n : Nat) : bnd n (List.replicate n 0) := fun i => by
  rw [List.getD_eq_getElem?_getD, List.getElem?_replicate]
  split <;> exact Nat.pow_pos (by decide)
/-- The next ones. -/
def nxt (a : List Pr) (z : List Nat) : Nat → List Nat
  | 0 => z
  | k + 1 => (nxt a z k).set (a.getD k dP).1.toNat ((nxt a z k).getD (a.getD k dP).1.toNat 0 ||| 2 ^ (a.getD k dP).2.toNat)
theorem nxt_len (a : List Pr) (z : List Nat) : ∀ k, (nxt a z k).length = z.length
  | 0 => rfl
  | k + 1 => by rw [nxt, List.length_set, nxt_len a z k]
theorem nxt_bnd {n : Nat} {a : List Pr} (h : dgC n a) {z : List Nat} (hz : bnd n z) : ∀ {k : Nat}, k ≤ a.length → bnd n (nxt a z k)
  | 0, _ => hz
  | k + 1, hk => by
    have ih := nxt_bnd h hz (k := k) (by omega)
    obtain ⟨f, t, e, _, h2, _⟩ := h.at (i := k) (by omega)
    rw [nxt, e]
    exact bnd_set ih (or_lt n (ih _) (pow_lt n (by simpa using h2)))
theorem nxt_at {a : List Pr} {z : List Nat} {k f t : Nat} (e : a.getD k dP = ((f : Int), (t : Int))) : nxt a z (k + 1) = (nxt a z k).set f ((nxt a z k).getD f 0 ||| 2 ^ t) := by
  rw [nxt, e]; rfl
/-- What each reaches. -/
def rchI (m : Nat) (r : List Nat) : Nat → List Nat
  | 0 => r
  | i + 1 => if ((rchI m r i).getD i 0).testBit m then (rchI m r i).set i ((rchI m r i).getD i 0 ||| (rchI m r i).getD m 0) else rchI m r i
def rchM (n : Nat) (r : List Nat) : Nat → List Nat
  | 0 => r
  | m + 1 => rchI m (rchM n r m) n
theorem rchI_len (m : Nat) (r : List Nat) : ∀ i, (rchI m r i).length = r.length
  | 0 => rfl
  | i + 1 => by
    have := rchI_len m r i
    rw [rchI]; split
    · rw [List.length_set, this]
    · exact this
theorem rchI_bnd {n m : Nat} {r : List Nat} (h : bnd n r) : ∀ i, bnd n (rchI m r i)
  | 0 => h
  | i + 1 => by
    have ih := rchI_bnd (m := m) h i
    rw [rchI]; split
    · exact bnd_set ih (or_lt n (ih _) (ih _))
    · exact ih
theorem rchM_len (n : Nat) (r : List Nat) : ∀ m, (rchM n r m).length = r.length
  | 0 => rfl
  | m + 1 => by rw [rchM, rchI_len, rchM_len n r m]
theorem rchM_bnd {n : Nat} {r : List Nat} (h : bnd n r) : ∀ m, bnd n (rchM n r m)
  | 0 => h
  | m + 1 => rchI_bnd (rchM_bnd h m) n
def nextL (n : Nat) (a : List Pr) : List Nat := nxt a (List.replicate n 0) a.length
def reachL (n : Nat) (a : List Pr) : List Nat := rchM n (nextL n a) n
theorem nextL_len (n : Nat) (a : List Pr) : (nextL n a).length = n := by unfold nextL; rw [nxt_len, List.length_replicate]
theorem reachL_len (n : Nat) (a : List Pr) : (reachL n a).length = n := by unfold reachL; rw [rchM_len, nextL_len]
theorem nextL_bnd {n : Nat} {a : List Pr} (h : dgC n a) : bnd n (nextL n a) := nxt_bnd h (bnd_zero n) (Nat.le_refl _)
theorem reachL_bnd {n : Nat} {a : List Pr} (h : dgC n a) : bnd n (reachL n a) := rchM_bnd (nextL_bnd h) n
def acyL (r : List Nat) : Prop := ∀ i, i < r.length → (r.getD i 0).testBit i = false
instance (r : List Nat) : Decidable (acyL r) := by unfold acyL; infer_instance
theorem acy_no {r : List Nat} {i : Nat} (hi : i < r.length) (h : (r.getD i 0).testBit i = true) : decide (acyL r) = false := decide_eq_false fun e => by rw [e i hi] at h; cases h
/-- The arcs from each to those that it reaches. -/
def lstJ (r : List Nat) (i : Nat) : Nat → List Pr
  | 0 => []
  | j + 1 => if i ≠ j ∧ (r.getD i 0).testBit j = true then lstJ r i j ++ [((i : Int), (j : Int))] else lstJ r i j
def lstL (r : List Nat) : Nat → List Pr
  | 0 => []
  | i + 1 => lstL r i ++ lstJ r i r.length
theorem lstJ_len (r : List Nat) (i : Nat) : ∀ j, (lstJ r i j).length ≤ j
  | 0 => Nat.le_refl _
  | j + 1 => by
    have := lstJ_len r i j
    rw [lstJ]; split
    · rw [List.length_append]; simp; omega
    · omega
theorem lstL_len (r : List Nat) : ∀ i, (lstL r i).length ≤ i * r.length
  | 0 => Nat.zero_le _
  | i + 1 => by
    have := lstL_len r i
    have := lstJ_len r i r.length
    rw [lstL, List.length_append, Nat.succ_mul]; omega
def clsL (n : Nat) (a : List Pr) : List Pr := lstL (reachL n a) n
def clsR (n : Int) (a : List Pr) : List Pr := if dgC n a then clsL n.toNat a else []
def clsE (n : Int) (a : List Pr) : Int := if dgC n a then 0 else 1
theorem cls_ok {n : Int} {a : List Pr} (h : dgC n a) : clsR n a = clsL n.toNat a ∧ clsE n a = 0 := ⟨if_pos h, if_pos h⟩
theorem cls_no {n : Int} {a : List Pr} (h : ¬ dgC n a) : clsR n a = [] ∧ clsE n a = 1 := ⟨if_neg h, if_neg h⟩
def cycC (n : Int) (a : List Pr) : Prop := dgC n a ∧ acyL (reachL n.toNat a)
instance (n : Int) (a : List Pr) : Decidable (cycC n a) := by unfold cycC; infer_instance
def rchC (n : Int) (a : List Pr) (i j : Int) : Prop := dgC n a ∧ (0 ≤ i ∧ i < n) ∧ (0 ≤ j ∧ j < n) ∧ ((reachL n.toNat a).getD i.toNat 0).testBit j.toNat = true
instance (n : Int) (a : List Pr) (i j : Int) : Decidable (rchC n a i j) := by unfold rchC; infer_instance
/-! ## The reference's table -/
def tb (r : List Nat) : List Value := (List.range 576).map fun x => Value.bool ((r.getD (x / 24) 0).testBit (x % 24))
theorem tb_len (r : List Nat) : (tb r).length = 576 := by unfold tb; simp
theorem tb_get (r : List Nat) {i j : Nat} (hi : i < 24) (hj : j < 24) : (tb r)[i * 24 + j]? = some (.bool ((r.getD i 0).testBit j)) := by
  unfold tb
  rw [List.getElem?_map, List.getElem?_range (by omega)]
  show some (Value.bool ((r.getD ((i * 24 + j) / 24) 0).testBit ((i * 24 + j) % 24))) = _
  rw [show (i * 24 + j) / 24 = i from by omega, show (i * 24 + j) % 24 = j from by omega]
theorem tb_one (r : List Nat) : AllOne (tb r) := fun v hv => by
  unfold tb at hv
  obtain ⟨x, _, rfl⟩ := List.mem_map.1 hv
  rfl
theorem tb_zero (n : Nat) : tb (List.replicate n 0) = List.replicate 576 (.bool false) := by
  apply List.ext_getElem?
  intro x
  unfold tb
  rw [List.getElem?_map, List.getElem?_replicate]
  by_cases h : x < 576
  · rw [List.getElem?_range h, if_pos h]
    show some (Value.bool (((List.replicate n 0).getD (x / 24) 0).testBit (x % 24))) = _
    have : (List.replicate n 0).getD (x / 24) 0 = 0 := by
      rw [List.getD_eq_getElem?_getD, List.getElem?_replicate]; split <;> rfl
    rw [this, Nat.zero_testBit]
  · rw [if_neg h, List.getElem?_eq_none (by simpa using h)]; rfl
theorem tb_set {r : List Nat} {i j : Nat} (hi : i < r.length) (hr : r.length ≤ 24) (hj : j < 24) : (tb r).set (i * 24 + j) (.bool true) = tb (r.set i (r.getD i 0 ||| 2 ^ j)) := by
  apply List.ext_getElem?
  intro x
  rw [List.getElem?_set]
  unfold tb
  rw [List.getElem?_map, List.getElem?_map, List.length_map, List.length_range]
  by_cases hx : x < 576
  · rw [List.getElem?_range hx]
    show _ = some (Value.bool (((r.set i _).getD (x / 24) 0).testBit (x % 24)))
    rw [getD_set]
    by_cases e : i * 24 + j = x
    · rw [if_pos e, if_pos (by omega), if_pos ⟨by omega, by omega⟩]
      rw [Nat.testBit_or, Nat.testBit_two_pow, show (decide (j = x % 24)) = true from by rw [decide_eq_true_eq]; omega, Bool.or_true]
    · rw [if_neg e]
      show some _ = some _
      by_cases e2 : i = x / 24 ∧ x / 24 < r.length
      · rw [if_pos e2, e2.1, Nat.testBit_or, Nat.testBit_two_pow, show (decide (j = x % 24)) = false from by rw [decide_eq_false_iff_not]; omega, Bool.or_false]
      · rw [if_neg e2]
  · rw [List.getElem?_eq_none (by simpa using hx)]
    rw [if_neg (by omega)]
    rfl
/-- In the middle of a row. -/
def midR (m : Nat) (r : List Nat) (i j : Nat) : List Nat := if (r.getD i 0).testBit m then r.set i (r.getD i 0 ||| r.getD m 0 % 2 ^ j) else r
theorem midR_len (m : Nat) (r : List Nat) (i j : Nat) : (midR m r i j).length = r.length := by unfold midR; split <;> simp
theorem midR_zero (m : Nat) (r : List Nat) (i : Nat) (hi : i < r.length) : midR m r i 0 = r := by
  unfold midR; split
  · rw [Nat.pow_zero, Nat.mod_one, Nat.or_zero]
    apply List.ext_getElem?
    intro x
    rw [List.getElem?_set]
    split
    · rename_i h
      subst h
      rw [List.getD_eq_getElem?_getD, List.getElem?_eq_getElem hi]; first | rfl | (rw [if_pos hi]; rfl)
    · rfl
  · rfl
theorem midR_full {n m : Nat} {r : List Nat} {i : Nat} (h : bnd n r) : midR m r i n = if (r.getD i 0).testBit m then r.set i (r.getD i 0 ||| r.getD m 0) else r := by
  unfold midR; rw [Nat.mod_eq_of_lt (h m)]
theorem midR_row (m : Nat) (r : List Nat) (i j : Nat) : ((midR m r i j).getD i 0).testBit m = (r.getD i 0).testBit m := by
  unfold midR; split
  · rename_i h
    rw [getD_set]; split
    · rw [Nat.testBit_or, h]; rfl
    · rfl
  · rfl
theorem midR_col (m : Nat) (r : List Nat) (i j : Nat) : ((midR m r i j).getD m 0).testBit j = (r.getD m 0).testBit j := by
  unfold midR; split
  · rename_i h
    rw [getD_set]; split
    · rename_i e
      obtain ⟨e, _⟩ := e
      subst e
      rw [Nat.testBit_or, Nat.testBit_mod_two_pow]
      cases (r.getD i 0).testBit j <;> simp
    · rfl
  · rfl
theorem mod_next (x j : Nat) : x % 2 ^ (j + 1) = if x.testBit j then x % 2 ^ j ||| 2 ^ j else x % 2 ^ j := by
  apply Nat.eq_of_testBit_eq
  intro t
  rw [Nat.testBit_mod_two_pow]
  by_cases hj : x.testBit j
  · rw [if_pos hj, Nat.testBit_or, Nat.testBit_mod_two_pow, Nat.testBit_two_pow]
    by_cases ht : t = j
    · subst ht; simp [hj]
    · have : (decide (t < j + 1)) = decide (t < j) := decide_eq_decide.2 (by omega)
      rw [this, show (decide (j = t)) = false from by rw [decide_eq_false_iff_not]; omega, Bool.or_false]
  · rw [if_neg hj, Nat.testBit_mod_two_pow]
    by_cases ht : t = j
    · subst ht; simp [hj]
    · have : (decide (t < j + 1)) = decide (t < j) := decide_eq_decide.2 (by omega)
      rw [this]
theorem midR_next {m : Nat} {r : List Nat} {i j : Nat} (hi : i < r.length) : midR m r i (j + 1) = if (r.getD i 0).testBit m = true ∧ (r.getD m 0).testBit j = true then (midR m r i j).set i ((midR m r i j).getD i 0 ||| 2 ^ j) else midR m r i j := by
  unfold midR
  by_cases h : (r.getD i 0).testBit m
  · rw [if_pos h, if_pos h, mod_next]
    by_cases h2 : (r.getD m 0).testBit j
    · rw [if_pos h2, if_pos ⟨h, h2⟩, getD_set, if_pos ⟨rfl, hi⟩, List.set_set, Nat.or_assoc]
    · rw [if_neg h2, if_neg (fun e => h2 e.2)]
  · rw [if_neg h, if_neg h, if_neg (fun e => h e.1)]
/-! ## How many arcs there can be -/
theorem nodup_le : ∀ {l c : List Pr}, l.Nodup → (∀ x ∈ l, x ∈ c) → l.length ≤ c.length
  | [], _, _, _ => Nat.zero_le _
  | x :: l, c, hn, h => by
    have hn' := List.nodup_cons.1 hn
    have ih := nodup_le (l := l) (c := c.erase x) hn'.2 (fun y hy => (List.mem_erase_of_ne (fun e => hn'.1 (by rw [← e]; exact hy))).2 (h y (List.mem_cons_of_mem _ hy)))
    have hx := h x List.mem_cons_self
    rw [List.length_erase_of_mem hx] at ih
    have := List.length_pos_of_mem hx
    simp only [List.length_cons]; omega
theorem dgC.asc {n : Int} {a : List Pr} (h : dgC n a) : Asc a := by
  have hlt : ∀ (j i : Nat), i < j → j < a.length → ltP (a.getD i dP) (a.getD j dP) := by
    intro j
    induction j with
    | zero => intro i h; omega
    | succ j ih =>
      intro i hij hj
      have h1 := (h.2 (j + 1) hj).2 (by omega)
      rw [Nat.add_sub_cancel] at h1
      by_cases e : i = j
      · subst e; exact h1
      · exact (ih i (by omega) (by omega)).trans h1
  refine List.pairwise_iff_getElem.2 fun i j hi hj hij => ?_
  have := hlt j i hij hj
  rw [List.getD_eq_getElem?_getD, List.getD_eq_getElem?_getD, List.getElem?_eq_getElem hi, List.getElem?_eq_getElem hj] at this
  exact this
theorem dgC.short {n : Int} {a : List Pr} (h : dgC n a) : (a.length : Int) ≤ n * n := by
  obtain ⟨k, rfl⟩ : ∃ k : Nat, n = k := ⟨n.toNat, by have := h.1.1; omega⟩
  have hn : a.Nodup := h.asc.imp fun h e => by subst e; exact ltP.irr _ h
  have := nodup_le (c := (List.range k).flatMap fun i => (List.range k).map fun j => (((i : Nat) : Int), ((j : Nat) : Int))) hn fun x hx => by
    obtain ⟨j, hj, e⟩ := List.mem_iff_getElem.1 hx
    obtain ⟨f, t, e2, h1, h2, _⟩ := h.at hj
    rw [List.getD_eq_getElem?_getD, List.getElem?_eq_getElem hj] at e2
    simp only [Option.getD_some] at e2
    rw [e] at e2
    rw [e2]
    exact List.mem_flatMap.2 ⟨f, List.mem_range.2 (by omega), List.mem_map.2 ⟨t, List.mem_range.2 (by omega), rfl⟩⟩
  have hl : ((List.range k).flatMap fun i => (List.range k).map fun j => (((i : Nat) : Int), ((j : Nat) : Int))).length = k * k := by
    have : ∀ (l : List Nat), (l.flatMap fun i => (List.range k).map fun j => (((i : Nat) : Int), ((j : Nat) : Int))).length = l.length * k := by
      intro l
      induction l with
      | nil => simp
      | cons x l ih => rw [List.flatMap_cons, List.length_append, ih, List.length_map, List.length_range, List.length_cons, Nat.succ_mul]; omega
    rw [this, List.length_range]
  rw [hl] at this
  exact_mod_cast this
/-! ## For the walks -/
theorem bit_dec (a v : Nat) : decide (((a >>> v &&& 1 : Nat) : Int) ≠ 0) = a.testBit v := by
  cases h : a.testBit v with
  | true => exact decide_eq_true ((bit_iff a v).2 h)
  | false => exact decide_eq_false (fun e => by rw [(bit_iff a v).1 e] at h; cases h)
theorem pcells_getE {l : List Pr} {j : Nat} {p : Pr} (e : l.getD j dP = p) (h : j < l.length) (m : Nat) (v : Value) (hv : (pc p)[m]? = some v) : (pcells l)[j * 2 + m]? = some v := pcells_getA h m v (by rw [e]; exact hv)
def OWS (E : TypeId) (r : List Nat) (v : Value) (rout : List Res) (φo : List VP) : Prop := ∃ (ad : Option Addr) (c : Nat), v = .slice ad r.length c ∧ φo = [] ∧ rout = [osl ad r.length c E 1 (u32s r)]
def SET (r : List Nat) (v : Value) (φo : List VP) : Prop := ∃ (ad : Option Addr) (c : Nat), v = .slice ad r.length c ∧ φo = [vCells ad (u32s r)]
def nI (r : List Nat) : List Int := r.map fun (x : Nat) => (x : Int)
theorem nI_len (r : List Nat) : (nI r).length = r.length := by unfold nI; rw [List.length_map]
theorem nI_getD (r : List Nat) (i : Nat) : (nI r).getD i 0 = ((r.getD i 0 : Nat) : Int) := by
  unfold nI
  rw [List.getD_eq_getElem?_getD, List.getD_eq_getElem?_getD, List.getElem?_map]
  cases r[i]? <;> rfl
theorem nI_set (r : List Nat) (i x : Nat) : (nI r).set i (x : Int) = nI (r.set i x) := by unfold nI; rw [List.map_set]
theorem nI_get {r : List Nat} {k : Nat} (h : k < r.length) : (i64s (nI r))[k]? = some (.int .i64 ((r.getD k 0 : Nat) : Int)) := by
  rw [i64s_get (by rw [nI_len]; exact h), nI_getD]
theorem nI_zero (n : Nat) : nI (List.replicate n 0) = List.replicate n 0 := by unfold nI; rw [List.map_replicate]; rfl
theorem arc5 (l : List Pr) (i : Nat) : i = 0 ∨ (0 < i ∧ (l.getD i dP).1 < (l.getD (i - 1) dP).1) ∨ (0 < i ∧ ¬ (l.getD i dP).1 < (l.getD (i - 1) dP).1 ∧ (l.getD i dP).1 ≠ (l.getD (i - 1) dP).1) ∨ (0 < i ∧ ¬ (l.getD i dP).1 < (l.getD (i - 1) dP).1 ∧ (l.getD i dP).1 = (l.getD (i - 1) dP).1 ∧ (l.getD i dP).2 ≤ (l.getD (i - 1) dP).2) ∨ (0 < i ∧ ¬ (l.getD i dP).1 < (l.getD (i - 1) dP).1 ∧ (l.getD i dP).1 = (l.getD (i - 1) dP).1 ∧ ¬ (l.getD i dP).2 ≤ (l.getD (i - 1) dP).2) := by
  omega
theorem arc_end (n : Int) (l : List Pr) (i : Nat) : (l.getD i dP).1 < 0 ∨ (¬ (l.getD i dP).1 < 0 ∧ n ≤ (l.getD i dP).1) ∨ (¬ (l.getD i dP).1 < 0 ∧ ¬ n ≤ (l.getD i dP).1 ∧ (l.getD i dP).2 < 0) ∨ (¬ (l.getD i dP).1 < 0 ∧ ¬ n ≤ (l.getD i dP).1 ∧ ¬ (l.getD i dP).2 < 0 ∧ n ≤ (l.getD i dP).2) ∨ (¬ (l.getD i dP).1 < 0 ∧ ¬ n ≤ (l.getD i dP).1 ∧ ¬ (l.getD i dP).2 < 0 ∧ ¬ n ≤ (l.getD i dP).2 ∧ (l.getD i dP).1 = (l.getD i dP).2) ∨ (¬ (l.getD i dP).1 < 0 ∧ ¬ n ≤ (l.getD i dP).1 ∧ ¬ (l.getD i dP).2 < 0 ∧ ¬ n ≤ (l.getD i dP).2 ∧ ¬ (l.getD i dP).1 = (l.getD i dP).2) := by
  omega
theorem dgC_yes {n : Int} {l : List Pr} (h1 : ¬ n < 0) (h2 : ¬ 24 < n) (h : ∀ i, i < l.length → arcAt n l i) : decide (dgC n l) = true := decide_eq_true ⟨⟨by omega, by omega⟩, h⟩
theorem dgC_out {n : Int} {l : List Pr} (h : n < 0 ∨ 24 < n) : decide (dgC n l) = false := decide_eq_false fun e => by have := e.1; omega
end Go.Fw
