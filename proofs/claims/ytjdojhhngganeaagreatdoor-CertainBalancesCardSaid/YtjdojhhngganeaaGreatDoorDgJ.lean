/- Chapter 24: how often a vertex has a place. Plain. -/
import Derived.Test.YtjdojhhngganeaaGreatDoorDgI
namespace Go.Fw
open Go Go.RowKit Go.Nat9

/-! ## Sums -/
def sm (f : Nat → Nat) : Nat → Nat
  | 0 => 0
  | n + 1 => sm f n + f n
theorem sm_congr {f g : Nat → Nat} : ∀ {n : Nat}, (∀ i, i < n → f i = g i) → sm f n = sm g n
  | 0, _ => rfl
  | n + 1, h => by rw [sm, sm, sm_congr (n := n) (fun i hi => h i (by omega)), h n (by omega)]
theorem sm_add {f g : Nat → Nat} : ∀ n, sm (fun i => f i + g i) n = sm f n + sm g n
  | 0 => rfl
  | n + 1 => by rw [sm, sm, sm, sm_add n]; omega
theorem sm_zero {f : Nat → Nat} : ∀ {n : Nat}, (∀ i, i < n → f i = 0) → sm f n = 0
  | 0, _ => rfl
  | n + 1, h => by rw [sm, sm_zero (n := n) (fun i hi => h i (by omega)), h n (by omega)]
theorem sm_one {f : Nat → Nat} {t : Nat} : ∀ {n : Nat}, t < n → (∀ i, i < n → i ≠ t → f i = 0) → sm f n = f t
  | n + 1, ht, h => by
    rw [sm]
    by_cases e : t = n
    · subst e
      rw [sm_zero (fun i hi => h i (by omega) (by omega)), Nat.zero_add]
    · rw [sm_one (n := n) (by omega) (fun i hi hne => h i (by omega) hne), h n (by omega) (fun e2 => e e2.symm), Nat.add_zero]
theorem sm_mono {f : Nat → Nat} {m : Nat} : ∀ {n : Nat}, m ≤ n → sm f m ≤ sm f n
  | 0, h => by rw [show m = 0 from by omega]; exact Nat.le_refl _
  | n + 1, h => by
    by_cases e : m = n + 1
    · subst e; exact Nat.le_refl _
    · have := sm_mono (f := f) (m := m) (n := n) (by omega)
      rw [sm]; omega
theorem sm_mul (f : Nat → Nat) (c : Nat) : ∀ n, sm (fun i => c * f i) n = c * sm f n
  | 0 => rfl
  | n + 1 => by rw [sm, sm, sm_mul f c n, Nat.mul_add]
def ls {α : Type} (g : α → Nat) : List α → Nat
  | [] => 0
  | x :: l => g x + ls g l
theorem ls_congr {α : Type} {f g : α → Nat} : ∀ {l : List α}, (∀ x ∈ l, f x = g x) → ls f l = ls g l
  | [], _ => rfl
  | x :: l, h => by rw [ls, ls, h x List.mem_cons_self, ls_congr (l := l) (fun y hy => h y (List.mem_cons_of_mem _ hy))]
theorem len_flatMap {α β : Type} (h : α → List β) : ∀ l : List α, (l.flatMap h).length = ls (fun x => (h x).length) l
  | [] => rfl
  | x :: l => by rw [List.flatMap_cons, List.length_append, len_flatMap h l, ls]
theorem len_range {β : Type} (h : Nat → List β) : ∀ n, ((List.range n).flatMap h).length = sm (fun v => (h v).length) n
  | 0 => rfl
  | n + 1 => by rw [List.range_succ, List.flatMap_append, List.length_append, len_range h n, List.flatMap_cons, List.flatMap_nil, List.append_nil, sm]
theorem fib {α : Type} {f : α → Nat} {g : Nat → Nat} {N : Nat} : ∀ {l : List α}, (∀ x ∈ l, f x < N) → ls (fun x => g (f x)) l = sm (fun t => (l.filter fun x => decide (f x = t)).length * g t) N
  | [], _ => by
    rw [ls, sm_zero]; intro i _; simp
  | x :: l, h => by
    rw [ls, fib (l := l) (fun y hy => h y (List.mem_cons_of_mem _ hy))]
    have e : ∀ t, ((x :: l).filter fun x => decide (f x = t)).length * g t = (if f x = t then g t else 0) + (l.filter fun x => decide (f x = t)).length * g t := by
      intro t
      rw [List.filter_cons]
      by_cases c : f x = t
      · rw [if_pos (decide_eq_true c), if_pos c, List.length_cons, Nat.succ_mul, Nat.add_comm]
      · rw [if_neg (by simpa using c), if_neg c, Nat.zero_add]
    rw [sm_congr (fun t _ => e t), sm_add, sm_one (h x List.mem_cons_self) (fun i _ hi => if_neg (fun e => hi e.symm)), if_pos rfl]
theorem ls_add {α : Type} (f g : α → Nat) : ∀ l : List α, ls (fun x => f x + g x) l = ls f l + ls g l
  | [] => rfl
  | x :: l => by rw [ls, ls, ls, ls_add f g l]; omega
theorem ls_sm {α : Type} (h : α → Nat → Nat) (l : List α) : ∀ n, ls (fun x => sm (h x) n) l = sm (fun v => ls (fun x => h x v) l) n
  | 0 => by
    show ls (fun _ => 0) l = 0
    induction l with
    | nil => rfl
    | cons x l ih => rw [ls, ih]
  | n + 1 => by
    rw [sm, ← ls_sm h l n, ← ls_add]; rfl
theorem ls_const {α : Type} (c : Nat) : ∀ l : List α, ls (fun _ => c) l = l.length * c
  | [] => by rw [ls, List.length_nil, Nat.zero_mul]
  | x :: l => by rw [ls, ls_const c l, List.length_cons, Nat.succ_mul, Nat.add_comm]
theorem ls_filter {α : Type} (P : α → Bool) : ∀ l : List α, (l.filter P).length = ls (fun x => if P x = true then 1 else 0) l
  | [] => rfl
  | x :: l => by
    rw [List.filter_cons, ls, ← ls_filter P l]
    split
    · rw [List.length_cons, Nat.add_comm]
    · rw [Nat.zero_add]

/-! ## First so many steps, then the others -/
theorem sq_app {n : Nat} {rd : Nat → Nat → Bool} (k : Nat) : ∀ (j s : Nat), sq n rd (j + k) s = (sq n rd j s).flatMap fun q => (sq n rd k (stU s q)).map (q ++ ·)
  | 0, s => by
    rw [Nat.zero_add, sq, List.flatMap_cons, List.flatMap_nil, List.append_nil, stU]
    show _ = List.map (fun x => x) _
    rw [List.map_id']
  | j + 1, s => by
    rw [show j + 1 + k = (j + k) + 1 from by omega, sq, sq, List.flatMap_assoc]
    refine congrArg List.flatten (List.map_congr_left fun v _ => ?_)
    by_cases hr : rd s v = true
    · rw [if_pos hr, if_pos hr, sq_app k j, List.map_flatMap, List.flatMap_map]
      refine congrArg List.flatten (List.map_congr_left fun q _ => ?_)
      rw [List.map_map]
      rfl
    · rw [if_neg hr, if_neg hr, List.flatMap_nil]
theorem sq_st {n k : Nat} {a : List Pr} {q : List Nat} (h : q ∈ sq n (rdA a) k 0) : stU 0 q < 2 ^ n ∧ bc n (stU 0 q) = k := by
  obtain ⟨h1, h2⟩ := mem_sq.1 h
  refine ⟨stU_lt (Nat.pow_pos (by decide)) h2, ?_⟩
  rw [okS_bc h2, bc_zero, h1, Nat.zero_add]
/-- In how many ways a set can stand first. -/
def fcn (n : Nat) (a : List Pr) (t : Nat) : Nat := ((sq n (rdA a) (bc n t) 0).filter fun q => decide (stU 0 q = t)).length
theorem fcn_zero (n : Nat) (a : List Pr) : fcn n a 0 = 1 := by
  unfold fcn
  rw [bc_zero, sq]; rfl
theorem fcn_le {n : Nat} {a : List Pr} (hn : n ≤ 10) (t : Nat) : fcn n a t ≤ 10000000000 := by
  unfold fcn
  exact Nat.le_trans (List.length_filter_le _ _) (Nat.le_trans (sq_len_le _ _ _ _) (pow_le10 hn (bc_le n t)))
theorem fcn_at {n k : Nat} {a : List Pr} (t : Nat) : ((sq n (rdA a) k 0).filter fun q => decide (stU 0 q = t)).length = if bc n t = k then fcn n a t else 0 := by
  by_cases e : bc n t = k
  · rw [if_pos e]; unfold fcn; rw [e]
  · rw [if_neg e, List.length_eq_zero_iff, List.filter_eq_nil_iff]
    intro q hq h
    have h1 := (sq_st hq).2
    rw [of_decide_eq_true h] at h1
    exact e h1
/-- What a set and one more bring to a set. -/
def con1 (n : Nat) (a : List Pr) (t s v : Nat) : Nat := if rdA a s v = true ∧ s ||| 2 ^ v = t then fcn n a s else 0
theorem bc_none {n t : Nat} (ht : t < 2 ^ n) (h : bc n t = 0) : t = 0 := by
  apply Nat.eq_of_testBit_eq
  intro v
  rw [Nat.zero_testBit]
  by_cases hv : v < n
  · unfold bc at h
    have := List.filter_eq_nil_iff.1 (List.length_eq_zero_iff.1 h) v (List.mem_range.2 hv)
    exact Bool.eq_false_iff.2 this
  · exact Nat.testBit_lt_two_pow (Nat.lt_of_lt_of_le ht (Nat.pow_le_pow_right (by decide) (by omega)))
theorem or_ne_zero (s v : Nat) : s ||| 2 ^ v ≠ 0 := fun e => by
  have h : (s ||| 2 ^ v).testBit v = true := by rw [Nat.testBit_or, Nat.testBit_two_pow]; simp
  rw [e, Nat.zero_testBit] at h; cases h
theorem fcn_rec {n : Nat} {a : List Pr} {t : Nat} (ht : t < 2 ^ n) : fcn n a t = (if t = 0 then 1 else 0) + sm (fun s => sm (con1 n a t s) n) (2 ^ n) := by
  by_cases h0 : t = 0
  · subst h0
    rw [if_pos rfl, fcn_zero, sm_zero]
    intro s _
    refine sm_zero fun v _ => if_neg fun e => or_ne_zero s v e.2
  · rw [if_neg h0, Nat.zero_add]
    obtain ⟨k, hk⟩ : ∃ k, bc n t = k + 1 := ⟨bc n t - 1, by have : bc n t ≠ 0 := fun e => h0 (bc_none ht e); omega⟩
    have e1 : fcn n a t = ls (fun q => sm (fun v => if rdA a (stU 0 q) v = true ∧ stU 0 q ||| 2 ^ v = t then 1 else 0) n) (sq n (rdA a) k 0) := by
      unfold fcn
      rw [hk, sq_app 1 k 0, List.filter_flatMap, len_flatMap]
      refine ls_congr fun q _ => ?_
      rw [List.filter_map, List.length_map, sq, List.filter_flatMap, len_range]
      refine sm_congr fun v _ => ?_
      by_cases hr : rdA a (stU 0 q) v = true
      · rw [if_pos hr, sq, List.map_cons, List.map_nil, List.filter_cons, List.filter_nil]
        have hx : ((fun p => decide (stU 0 p = t)) ∘ fun x => q ++ x) [v] = decide (stU 0 q ||| 2 ^ v = t) := by
          show decide (stU 0 (q ++ [v]) = t) = _
          rw [stU_app]; rfl
        rw [hx]
        by_cases c : stU 0 q ||| 2 ^ v = t
        · rw [if_pos (decide_eq_true c), if_pos ⟨hr, c⟩]; rfl
        · rw [if_neg (by simpa using c), if_neg (fun e => c e.2)]; rfl
      · rw [if_neg hr, List.filter_nil, if_neg (fun e => hr e.1)]; rfl
    rw [e1, fib (f := stU 0) (g := fun s => sm (fun v => if rdA a s v = true ∧ s ||| 2 ^ v = t then 1 else 0) n) (N := 2 ^ n) (fun q hq => (sq_st hq).1)]
    refine sm_congr fun s _ => ?_
    rw [← sm_mul]
    refine sm_congr fun v hv => ?_
    rw [fcn_at]
    unfold con1
    by_cases c : rdA a s v = true ∧ s ||| 2 ^ v = t
    · rw [if_pos c, if_pos c, Nat.mul_one, if_pos]
      have := bc_or hv (rdA_bit c.1)
      rw [c.2, hk] at this; omega
    · rw [if_neg c, if_neg c, Nat.mul_zero]
/-- What the first so many sets have brought to a set. -/
def fw (n : Nat) (a : List Pr) (s v t : Nat) : Nat := (if t = 0 then 1 else 0) + sm (fun s => sm (con1 n a t s) n) s + sm (con1 n a t s) v
theorem fw_start (n : Nat) (a : List Pr) (t : Nat) : fw n a 0 0 t = if t = 0 then 1 else 0 := by unfold fw; rw [sm, sm]; omega
theorem fw_turn (n : Nat) (a : List Pr) (s t : Nat) : fw n a s n t = fw n a (s + 1) 0 t := by unfold fw; rw [sm, sm]; omega
theorem fw_next (n : Nat) (a : List Pr) (s v t : Nat) : fw n a s (v + 1) t = fw n a s v t + con1 n a t s v := by unfold fw; rw [sm]; omega
theorem con1_no {n : Nat} {a : List Pr} {t s v : Nat} (h : t ≤ s) : con1 n a t s v = 0 := if_neg fun e => by
  have := or_gt (rdA_bit e.1); omega
theorem fw_le {n : Nat} {a : List Pr} {t s v : Nat} (ht : t < 2 ^ n) (hs : s < 2 ^ n) (hv : v ≤ n) : fw n a s v t ≤ fcn n a t := by
  rw [fcn_rec ht]
  have h1 := sm_mono (f := fun s => sm (con1 n a t s) n) (show s + 1 ≤ 2 ^ n from hs)
  have h2 := sm_mono (f := con1 n a t s) hv
  rw [sm] at h1
  unfold fw; omega
theorem fw_done {n : Nat} {a : List Pr} {t s v : Nat} (ht : t < 2 ^ n) (hs : t ≤ s) (hs2 : s ≤ 2 ^ n) : fw n a s v t = fcn n a t := by
  have hz : ∀ (d s : Nat), t ≤ s → sm (fun s => sm (con1 n a t s) n) (s + d) = sm (fun s => sm (con1 n a t s) n) s := by
    intro d
    induction d with
    | zero => intro s _; rfl
    | succ d ih =>
      intro s hs
      rw [show s + (d + 1) = (s + d) + 1 from by omega, sm, ih s hs, sm_zero (fun v _ => con1_no (by omega)), Nat.add_zero]
  rw [fcn_rec ht]
  have := hz (2 ^ n - s) s hs
  rw [show s + (2 ^ n - s) = 2 ^ n from by omega] at this
  unfold fw
  rw [this, sm_zero (n := v) (fun u _ => con1_no hs), Nat.add_zero]

/-! ## The places -/
def plc (n : Nat) (a : List Pr) (i k : Nat) : Nat := ((seqsL n a).filter fun p => decide (p.idxOf i = k)).length
def cwL (n : Nat) (a : List Pr) (t : Nat) : Nat := (sq n (rdA a) (n - bc n t) t).length
def pwt (n : Nat) (a : List Pr) (i k t : Nat) : Nat := if bc n t = k ∧ rdA a t i = true then fcn n a t * cwL n a (t ||| 2 ^ i) else 0
theorem plc_sum {n : Nat} {a : List Pr} {i k : Nat} (hi : i < n) (hk : k < n) : plc n a i k = sm (pwt n a i k) (2 ^ n) := by
  obtain ⟨m, hm⟩ : ∃ m, n = k + (m + 1) := ⟨n - k - 1, by omega⟩
  have e0 : seqsL n a = sq n (rdA a) (k + (m + 1)) 0 := by unfold seqsL; rw [← hm]
  unfold plc
  rw [e0, sq_app (m + 1) k 0, List.filter_flatMap, len_flatMap]
  have e1 : ∀ q ∈ sq n (rdA a) k 0, ((List.map (q ++ ·) (sq n (rdA a) (m + 1) (stU 0 q))).filter fun p => decide (p.idxOf i = k)).length = (fun t => if rdA a t i = true then (sq n (rdA a) m (t ||| 2 ^ i)).length else 0) (stU 0 q) := by
    intro q hq
    obtain ⟨hl, hok⟩ := mem_sq.1 hq
    rw [List.filter_map, List.length_map, sq, List.filter_flatMap, len_range]
    have hin : ∀ r, i ∈ q → ¬ (q ++ r).idxOf i = k := fun r h e => by
      rw [List.idxOf_append, if_pos h] at e
      have := List.idxOf_lt_length_of_mem h
      omega
    rw [sm_one hi]
    · show _ = if rdA a (stU 0 q) i = true then (sq n (rdA a) m (stU 0 q ||| 2 ^ i)).length else 0
      by_cases hr : rdA a (stU 0 q) i = true
      · rw [if_pos hr, if_pos hr, List.filter_eq_self.2, List.length_map]
        intro r hr2
        obtain ⟨r', _, rfl⟩ := List.mem_map.1 hr2
        refine decide_eq_true ?_
        have hnq : i ∉ q := fun e => by
          have := (stU_bit (s := 0)).2 (.inr e)
          rw [rdA_bit hr] at this; cases this
        rw [List.idxOf_append, if_neg hnq, List.idxOf_cons]
        simpa using hl
      · rw [if_neg hr, if_neg hr]; rfl
    · intro v _ hne
      rw [List.length_eq_zero_iff, List.filter_eq_nil_iff]
      intro r hr h
      split at hr
      · obtain ⟨r', _, rfl⟩ := List.mem_map.1 hr
        have h' : (q ++ v :: r').idxOf i = k := of_decide_eq_true h
        by_cases hq' : i ∈ q
        · exact hin _ hq' h'
        · rw [List.idxOf_append, if_neg hq', List.idxOf_cons] at h'
          have : (v == i) = false := by simpa using hne
          rw [this] at h'
          simp only [cond_false] at h'
          omega
      · cases hr
  rw [ls_congr e1, fib (f := stU 0) (g := fun t => if rdA a t i = true then (sq n (rdA a) m (t ||| 2 ^ i)).length else 0) (N := 2 ^ n) (fun q hq => (sq_st hq).1)]
  refine sm_congr fun t _ => ?_
  rw [fcn_at]
  unfold pwt cwL
  by_cases c1 : bc n t = k
  · by_cases c2 : rdA a t i = true
    · rw [if_pos c1, if_pos c2, if_pos ⟨c1, c2⟩, bc_or hi (rdA_bit c2), c1, show n - (k + 1) = m from by omega]
    · rw [if_neg c2, Nat.mul_zero, if_neg (show ¬ (bc n t = k ∧ rdA a t i = true) from fun e => c2 e.2)]
  · rw [if_neg c1, Nat.zero_mul, if_neg (show ¬ (bc n t = k ∧ rdA a t i = true) from fun e => c1 e.1)]
theorem plc_le {n : Nat} {a : List Pr} (hn : n ≤ 10) (i k : Nat) : plc n a i k ≤ 10000000000 := by
  unfold plc seqsL
  exact Nat.le_trans (List.length_filter_le _ _) (Nat.le_trans (sq_len_le _ _ _ _) (pow_le10 hn (Nat.le_refl _)))
theorem pw_le {n : Nat} {a : List Pr} {i k s : Nat} (hi : i < n) (hk : k < n) (hs : s ≤ 2 ^ n) : sm (pwt n a i k) s ≤ plc n a i k := by
  rw [plc_sum hi hk]; exact sm_mono hs
theorem ways_cw {n : Nat} {a : List Pr} (h : dgC n a) (hn : n ≤ 10) {s : Nat} (hs : s < 2 ^ n) : (waysL n a).getD s 0 = ((cwL n a s : Nat) : Int) := ways_seq h hn hs
def placeL (n : Nat) (a : List Pr) (i : Nat) : List Int := (List.range n).map fun k => ((plc n a i k : Nat) : Int)
theorem placeL_len (n : Nat) (a : List Pr) (i : Nat) : (placeL n a i).length = n := by unfold placeL; rw [List.length_map, List.length_range]
theorem placeL_at {n : Nat} {a : List Pr} {i k : Nat} (hk : k < n) : (placeL n a i).getD k 0 = ((plc n a i k : Nat) : Int) := by
  unfold placeL
  rw [List.getD_eq_getElem?_getD, List.getElem?_map, List.getElem?_range hk]; rfl
end Go.Fw
