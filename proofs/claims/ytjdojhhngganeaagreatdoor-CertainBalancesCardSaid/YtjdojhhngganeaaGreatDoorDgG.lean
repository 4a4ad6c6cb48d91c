/- Chapter 24: what reaches what; what the sequences are; that there are some. Plain. -/
import Derived.Test.YtjdojhhngganeaaGreatDoorDgF
namespace Go.Fw
open Go Go.RowKit

/-! ## The members -/
def okS (n : Nat) (rd : Nat → Nat → Bool) : Nat → List Nat → Prop
  | _, [] => True
  | s, v :: p => v < n ∧ rd s v = true ∧ okS n rd (s ||| 2 ^ v) p
def stU : Nat → List Nat → Nat
  | s, [] => s
  | s, v :: p => stU (s ||| 2 ^ v) p
theorem mem_sq {n : Nat} {rd : Nat → Nat → Bool} : ∀ {k s : Nat} {p : List Nat}, p ∈ sq n rd k s ↔ p.length = k ∧ okS n rd s p
  | 0, s, p => by
    rw [sq, List.mem_singleton]
    constructor
    · rintro rfl; exact ⟨rfl, trivial⟩
    · intro h; exact List.eq_nil_of_length_eq_zero h.1
  | k + 1, s, p => by
    rw [sq, List.mem_flatMap]
    constructor
    · rintro ⟨v, hv, hp⟩
      split at hp
      · rename_i hr
        obtain ⟨q, hq, rfl⟩ := List.mem_map.1 hp
        obtain ⟨h1, h2⟩ := mem_sq.1 hq
        exact ⟨by rw [List.length_cons, h1], List.mem_range.1 hv, hr, h2⟩
      · cases hp
    · rintro ⟨h1, h2⟩
      cases p with
      | nil => cases h1
      | cons v q =>
        obtain ⟨h3, h4, h5⟩ := h2
        refine ⟨v, List.mem_range.2 h3, ?_⟩
        rw [if_pos h4]
        exact List.mem_map.2 ⟨q, mem_sq.2 ⟨by simpa using h1, h5⟩, rfl⟩
theorem okS_app {n : Nat} {rd : Nat → Nat → Bool} : ∀ {p q : List Nat} {s : Nat}, okS n rd s (p ++ q) ↔ okS n rd s p ∧ okS n rd (stU s p) q
  | [], q, s => by simp [okS, stU]
  | v :: p, q, s => by
    rw [List.cons_append, okS, okS, stU, okS_app (p := p), and_assoc, and_assoc]
theorem stU_app : ∀ {p q : List Nat} {s : Nat}, stU s (p ++ q) = stU (stU s p) q
  | [], _, _ => rfl
  | v :: p, q, s => by rw [List.cons_append, stU, stU, stU_app (p := p)]
theorem stU_bit {v : Nat} : ∀ {p : List Nat} {s : Nat}, (stU s p).testBit v = true ↔ s.testBit v = true ∨ v ∈ p
  | [], s => by simp [stU]
  | u :: p, s => by
    rw [stU, stU_bit (p := p), Nat.testBit_or, Nat.testBit_two_pow, List.mem_cons]
    simp only [Bool.or_eq_true, decide_eq_true_eq]
    constructor
    · rintro ((h | h) | h)
      · exact .inl h
      · exact .inr (.inl h.symm)
      · exact .inr (.inr h)
    · rintro (h | h | h)
      · exact .inl (.inl h)
      · exact .inl (.inr h.symm)
      · exact .inr h
theorem rdA_bit {a : List Pr} {s v : Nat} (h : rdA a s v = true) : s.testBit v = false := (rdA_iff.1 h).1
theorem stU_lt {n : Nat} {rd : Nat → Nat → Bool} : ∀ {p : List Nat} {s : Nat}, s < 2 ^ n → okS n rd s p → stU s p < 2 ^ n
  | [], _, hs, _ => hs
  | _ :: p, _, hs, h => stU_lt (p := p) (or_lt n hs (pow_lt n h.1)) h.2.2
theorem okS_new {n : Nat} {a : List Pr} {v : Nat} : ∀ {p : List Nat} {s : Nat}, okS n (rdA a) s p → v ∈ p → s.testBit v = false
  | u :: p, s, h, hv => by
    rcases List.mem_cons.1 hv with rfl | hv
    · exact rdA_bit h.2.1
    · have := okS_new (p := p) h.2.2 hv
      rw [Nat.testBit_or] at this
      simp only [Bool.or_eq_false_iff] at this
      exact this.1
theorem okS_nodup {n : Nat} {a : List Pr} : ∀ {p : List Nat} {s : Nat}, okS n (rdA a) s p → p.Nodup
  | [], _, _ => List.nodup_nil
  | u :: p, s, h => by
    refine List.nodup_cons.2 ⟨fun hu => ?_, okS_nodup (p := p) h.2.2⟩
    have := okS_new h.2.2 hu
    rw [Nat.testBit_or, Nat.testBit_two_pow] at this
    simp at this
theorem okS_lt {n : Nat} {rd : Nat → Nat → Bool} : ∀ {p : List Nat} {s : Nat}, okS n rd s p → ∀ v ∈ p, v < n
  | u :: p, s, h, v, hv => by
    rcases List.mem_cons.1 hv with rfl | hv
    · exact h.1
    · exact okS_lt (p := p) h.2.2 v hv
theorem okS_bc {n : Nat} {a : List Pr} : ∀ {p : List Nat} {s : Nat}, okS n (rdA a) s p → bc n (stU s p) = bc n s + p.length
  | [], _, _ => rfl
  | u :: p, s, h => by
    rw [stU, okS_bc (p := p) h.2.2, bc_or h.1 (rdA_bit h.2.1), List.length_cons]; omega
/-- What has to stand before stands before. -/
theorem okS_arc {n : Nat} {a : List Pr} {f v : Nat} (hm : ((f : Int), (v : Int)) ∈ a) : ∀ {p : List Nat} {s : Nat}, okS n (rdA a) s p → v ∈ p → s.testBit f = false → p.idxOf f < p.idxOf v
  | u :: p, s, h, hv, hf => by
    have hr := (rdA_iff.1 h.2.1).2
    rw [List.idxOf_cons, List.idxOf_cons]
    by_cases e : u = v
    · subst e
      have := hr _ hm rfl
      simp only [Int.toNat_natCast] at this
      rw [hf] at this; cases this
    · have e2 : (u == v) = false := by simpa using e
      rw [e2]
      by_cases e3 : u = f
      · subst e3; simp
      · have e4 : (u == f) = false := by simpa using e3
        rw [e4]
        have hv' : v ∈ p := by
          rcases List.mem_cons.1 hv with h | h
          · exact absurd h.symm e
          · exact h
        have := okS_arc hm (p := p) h.2.2 hv' (by rw [Nat.testBit_or, Nat.testBit_two_pow, hf]; simpa using e3)
        simp only [cond_false]; omega
theorem seq_all {n : Nat} {a : List Pr} {p : List Nat} (h : p ∈ seqsL n a) : okS n (rdA a) 0 p ∧ p.length = n ∧ p.Nodup ∧ (∀ v, v ∈ p ↔ v < n) := by
  obtain ⟨h1, h2⟩ := mem_sq.1 h
  refine ⟨h2, h1, okS_nodup h2, fun v => ⟨fun hv => okS_lt h2 v hv, fun hv => ?_⟩⟩
  have hb := okS_bc h2
  rw [bc_zero, h1, Nat.zero_add] at hb
  have := stU_bit.1 (bc_all hb v hv)
  rw [Nat.zero_testBit] at this
  rcases this with e | e
  · cases e
  · exact e

/-! ## What reaches what -/
theorem rchI_at {m n : Nat} {r : List Nat} (hr : r.length = n) : ∀ {t : Nat}, t ≤ n → ∀ i, (rchI m r t).getD i 0 = if i < t ∧ (r.getD i 0).testBit m = true then r.getD i 0 ||| r.getD m 0 else r.getD i 0
  | 0, _, i => by rw [rchI, if_neg (by omega)]
  | t + 1, ht, i => by
    have ih := rchI_at (m := m) hr (t := t) (by omega)
    have hm : (rchI m r t).getD m 0 = r.getD m 0 := by
      rw [ih m]; split
      · exact Nat.or_self _
      · rfl
    have htt : (rchI m r t).getD t 0 = r.getD t 0 := by rw [ih t, if_neg (by omega)]
    rw [rchI, htt, hm]
    by_cases hb : (r.getD t 0).testBit m = true
    · rw [if_pos hb, getD_set, rchI_len, hr]
      by_cases e : t = i
      · subst e; rw [if_pos ⟨rfl, by omega⟩, if_pos ⟨by omega, hb⟩]
      · rw [if_neg (fun h => e h.1), ih i]
        by_cases c : i < t ∧ (r.getD i 0).testBit m = true
        · rw [if_pos c, if_pos ⟨by omega, c.2⟩]
        · rw [if_neg c, if_neg (fun h => c ⟨by omega, h.2⟩)]
    · rw [if_neg hb, ih i]
      by_cases c : i < t ∧ (r.getD i 0).testBit m = true
      · rw [if_pos c, if_pos ⟨by omega, c.2⟩]
      · rw [if_neg c, if_neg (fun h => c ⟨by
          rcases Nat.lt_or_ge i t with e | e
          · exact e
          · exact absurd (show (r.getD t 0).testBit m = true by rw [show t = i from by omega]; exact h.2) hb, h.2⟩)]
def rB (n : Nat) (r : List Nat) (m i j : Nat) : Prop := ((rchM n r m).getD i 0).testBit j = true
theorem rB_succ {n m : Nat} {r : List Nat} (hr : r.length = n) {i j : Nat} : rB n r (m + 1) i j ↔ rB n r m i j ∨ (rB n r m i m ∧ rB n r m m j) := by
  unfold rB
  rw [rchM, rchI_at (n := n) (by rw [rchM_len, hr]) (Nat.le_refl _)]
  by_cases c : i < n ∧ ((rchM n r m).getD i 0).testBit m = true
  · rw [if_pos c, Nat.testBit_or, Bool.or_eq_true]
    constructor
    · rintro (h | h)
      · exact .inl h
      · exact .inr ⟨c.2, h⟩
    · rintro (h | h)
      · exact .inl h
      · exact .inr h.2
  · rw [if_neg c]
    constructor
    · exact .inl
    · rintro (h | h)
      · exact h
      · refine absurd ⟨?_, h.1⟩ c
        rcases Nat.lt_or_ge i n with e | e
        · exact e
        · have h1 := h.1
          rw [List.getD_eq_getElem?_getD, List.getElem?_eq_none (by rw [rchM_len]; omega)] at h1
          simp at h1
theorem rB_mid {n : Nat} {r : List Nat} (hr : r.length = n) : ∀ {m x i j : Nat}, x < m → rB n r m i x → rB n r m x j → rB n r m i j
  | m + 1, x, i, j, hx, h1, h2 => by
    rw [rB_succ hr] at h1 h2 ⊢
    by_cases e : x = m
    · subst e
      have h3 : rB n r x i x := by rcases h1 with h | h; exact h; exact h.1
      have h4 : rB n r x x j := by rcases h2 with h | h; exact h; exact h.2
      exact .inr ⟨h3, h4⟩
    · have hxm : x < m := by omega
      rcases h1 with h1 | ⟨h1, h1'⟩ <;> rcases h2 with h2 | ⟨h2, h2'⟩
      · exact .inl (rB_mid hr hxm h1 h2)
      · exact .inr ⟨rB_mid hr hxm h1 h2, h2'⟩
      · exact .inr ⟨h1, rB_mid hr hxm h1' h2⟩
      · exact .inr ⟨h1, h2'⟩
theorem rB_mono {n : Nat} {r : List Nat} (hr : r.length = n) {i j : Nat} (h : rB n r 0 i j) : ∀ m, rB n r m i j
  | 0 => h
  | m + 1 => (rB_succ hr).2 (.inl (rB_mono hr h m))
theorem rB_ind {n : Nat} {r : List Nat} (hr : r.length = n) {T : Nat → Nat → Prop} (ht : ∀ i j k, T i j → T j k → T i k) (h0 : ∀ i j, rB n r 0 i j → T i j) : ∀ {m i j : Nat}, rB n r m i j → T i j
  | 0, _, _, h => h0 _ _ h
  | m + 1, i, j, h => by
    rcases (rB_succ hr).1 h with h | ⟨h1, h2⟩
    · exact rB_ind hr ht h0 h
    · exact ht _ _ _ (rB_ind hr ht h0 h1) (rB_ind hr ht h0 h2)
theorem nxt_bits {n : Nat} {a : List Pr} (h : dgC n a) {z : List Nat} (hz : z.length = n) (hz0 : ∀ i, z.getD i 0 = 0) {f v : Nat} : ∀ {k : Nat}, k ≤ a.length →
    (((nxt a z k).getD f 0).testBit v = true ↔ ∃ j, j < k ∧ a.getD j dP = ((f : Int), (v : Int)))
  | 0, _ => by
    rw [nxt, hz0]; simp
  | k + 1, hk => by
    have ih := nxt_bits h hz hz0 (f := f) (v := v) (k := k) (by omega)
    obtain ⟨f', t, e, h1, h2, _⟩ := h.at (i := k) (by omega)
    rw [nxt_at e, getD_set, nxt_len, hz]
    have hsp : (∃ j, j < k + 1 ∧ a.getD j dP = ((f : Int), (v : Int))) ↔ (∃ j, j < k ∧ a.getD j dP = ((f : Int), (v : Int))) ∨ (f' = f ∧ t = v) := by
      constructor
      · rintro ⟨j, hj, he⟩
        by_cases ej : j = k
        · subst ej; rw [e, Prod.mk.injEq] at he; exact .inr ⟨by omega, by omega⟩
        · exact .inl ⟨j, by omega, he⟩
      · rintro (⟨j, hj, he⟩ | ⟨rfl, rfl⟩)
        · exact ⟨j, by omega, he⟩
        · exact ⟨k, by omega, e⟩
    rw [hsp, ← ih]
    by_cases et : f' = f
    · subst et
      rw [if_pos ⟨rfl, by omega⟩, Nat.testBit_or, Nat.testBit_two_pow]
      simp
    · rw [if_neg (fun e => et e.1)]
      simp [et]
/-- One reaches another. -/
def rc (n : Nat) (a : List Pr) (i j : Nat) : Prop := ((reachL n a).getD i 0).testBit j = true
instance (n : Nat) (a : List Pr) (i j : Nat) : Decidable (rc n a i j) := by unfold rc; infer_instance
theorem rc_zero {n : Nat} {a : List Pr} (h : dgC n a) {i j : Nat} : rB n (nextL n a) 0 i j ↔ ((i : Int), (j : Int)) ∈ a := by
  have hb := nxt_bits h (z := List.replicate n 0) List.length_replicate (fun i => by rw [List.getD_eq_getElem?_getD, List.getElem?_replicate]; split <;> rfl) (f := i) (v := j) (Nat.le_refl _)
  refine Iff.trans hb ⟨?_, fun hm => ?_⟩
  · rintro ⟨k, hk, e⟩; rw [← e]; exact getD_mem2 hk
  · obtain ⟨k, hk, e⟩ := List.mem_iff_getElem.1 hm
    exact ⟨k, hk, by rw [List.getD_eq_getElem?_getD, List.getElem?_eq_getElem hk, e]; rfl⟩
theorem rc_arc {n : Nat} {a : List Pr} (h : dgC n a) {i j : Nat} (hm : ((i : Int), (j : Int)) ∈ a) : rc n a i j := rB_mono (nextL_len n a) ((rc_zero h).2 hm) n
theorem rc_lt {n : Nat} {a : List Pr} (h : dgC n a) {i j : Nat} (hr : rc n a i j) : i < n ∧ j < n := by
  unfold rc at hr
  constructor
  · rcases Nat.lt_or_ge i n with e | e
    · exact e
    · rw [List.getD_eq_getElem?_getD, List.getElem?_eq_none (by rw [reachL_len]; omega)] at hr
      simp at hr
  · rcases Nat.lt_or_ge j n with e | e
    · exact e
    · rw [Nat.testBit_lt_two_pow (Nat.lt_of_lt_of_le (reachL_bnd h i) (Nat.pow_le_pow_right (by decide) e))] at hr; cases hr
theorem rc_trans {n : Nat} {a : List Pr} (h : dgC n a) {i j k : Nat} (h1 : rc n a i j) (h2 : rc n a j k) : rc n a i k := rB_mid (nextL_len n a) (rc_lt h h1).2 h1 h2
theorem rc_ind {n : Nat} {a : List Pr} (h : dgC n a) {T : Nat → Nat → Prop} (ht : ∀ i j k, T i j → T j k → T i k) (h0 : ∀ i j : Nat, ((i : Int), (j : Int)) ∈ a → T i j) {i j : Nat} (hr : rc n a i j) : T i j :=
  rB_ind (nextL_len n a) ht (fun i j h' => h0 i j ((rc_zero h).1 h')) hr
theorem acy_rc {n : Nat} {a : List Pr} : acyL (reachL n a) ↔ ∀ i, ¬ rc n a i i := by
  unfold acyL rc
  rw [reachL_len]
  constructor
  · intro h i hi
    rcases Nat.lt_or_ge i n with e | e
    · rw [h i e] at hi; cases hi
    · rw [List.getD_eq_getElem?_getD, List.getElem?_eq_none (by rw [reachL_len]; omega)] at hi
      simp at hi
  · intro h i _
    exact Bool.eq_false_iff.2 (h i)
theorem arc_ends {n : Nat} {a : List Pr} (h : dgC n a) {p : Pr} (hp : p ∈ a) : ∃ f t : Nat, p = ((f : Int), (t : Int)) ∧ f < n ∧ t < n ∧ f ≠ t := by
  obtain ⟨j, hj, e⟩ := List.mem_iff_getElem.1 hp
  obtain ⟨f, t, e2, h1, h2, h3⟩ := h.at hj
  refine ⟨f, t, ?_, by omega, by omega, h3⟩
  rw [← e2, List.getD_eq_getElem?_getD, List.getElem?_eq_getElem hj, e]; rfl
/-- A sequence has what reaches before what is reached. -/
theorem seq_rc {n : Nat} {a : List Pr} (h : dgC n a) {p : List Nat} (hp : p ∈ seqsL n a) {i j : Nat} (hr : rc n a i j) : p.idxOf i < p.idxOf j := by
  obtain ⟨h1, h2, h3, h4⟩ := seq_all hp
  refine rc_ind h (T := fun i j => p.idxOf i < p.idxOf j) (fun _ _ _ => Nat.lt_trans) (fun i j hm => ?_) hr
  obtain ⟨f, t, e, hf, ht, _⟩ := arc_ends h hm
  rw [Prod.mk.injEq] at e
  exact okS_arc hm h1 ((h4 j).2 (by omega)) (Nat.zero_testBit _)
theorem seqs_cyc {n : Nat} {a : List Pr} (h : dgC n a) (hc : ¬ acyL (reachL n a)) : seqsL n a = [] := by
  refine List.eq_nil_iff_forall_not_mem.2 fun p hp => hc (acy_rc.2 fun i hi => ?_)
  have := seq_rc h hp hi
  omega

/-! ## There are sequences -/
theorem filter_lt {α : Type} {P Q : α → Bool} {x : α} : ∀ {l : List α}, x ∈ l → (∀ y, P y = true → Q y = true) → P x = false → Q x = true → (l.filter P).length < (l.filter Q).length
  | y :: l, hx, h, hp, hq => by
    have hle : (l.filter P).length ≤ (l.filter Q).length := by
      clear hx
      induction l with
      | nil => exact Nat.le_refl _
      | cons z l ih =>
        rw [List.filter_cons, List.filter_cons]
        by_cases hz : P z = true
        · rw [if_pos hz, if_pos (h z hz)]; simpa using ih
        · rw [if_neg hz]; split
          · rw [List.length_cons]; omega
          · exact ih
    rw [List.filter_cons, List.filter_cons]
    rcases List.mem_cons.1 hx with rfl | hx
    · rw [if_neg (by rw [hp]; decide), if_pos hq, List.length_cons]; omega
    · have ih := filter_lt hx h hp hq
      by_cases hz : P y = true
      · rw [if_pos hz, if_pos (h y hz), List.length_cons, List.length_cons]; omega
      · rw [if_neg hz]; split
        · rw [List.length_cons]; omega
        · exact ih
def ancN (n : Nat) (a : List Pr) (v : Nat) : Nat := ((List.range n).filter fun u => decide (rc n a u v)).length
def dscN (n : Nat) (a : List Pr) (v : Nat) : Nat := ((List.range n).filter fun u => decide (rc n a v u)).length
theorem least_of {n : Nat} {a : List Pr} (h : dgC n a) (hc : acyL (reachL n a)) {D : Nat → Prop} : ∀ {c v : Nat}, ancN n a v ≤ c → D v → ∃ u, D u ∧ ∀ x, D x → ¬ rc n a x u
  | c, v, hv, hd => by
    by_cases e : ∃ x, D x ∧ rc n a x v
    · obtain ⟨x, hx, hr⟩ := e
      have hlt : ancN n a x < ancN n a v := by
        unfold ancN
        refine filter_lt (x := x) (List.mem_range.2 (rc_lt h hr).1) (fun y hy => ?_) (decide_eq_false (acy_rc.1 hc x)) (decide_eq_true hr)
        exact decide_eq_true (rc_trans h (of_decide_eq_true hy) hr)
      cases c with
      | zero => omega
      | succ c => exact least_of h hc (c := c) (by omega) hx
    · exact ⟨v, hd, fun x hx hr => e ⟨x, hx, hr⟩⟩
def clo (a : List Pr) (s : Nat) : Prop := ∀ p ∈ a, s.testBit p.2.toNat = true → s.testBit p.1.toNat = true
theorem bc_lt_ex {s t : Nat} : ∀ {n : Nat}, bc n s < bc n t → ∃ v, v < n ∧ t.testBit v = true ∧ s.testBit v = false
  | 0, h => absurd h (Nat.lt_irrefl _)
  | n + 1, h => by
    rw [bc_succ, bc_succ] at h
    by_cases e : t.testBit n = true ∧ s.testBit n = false
    · exact ⟨n, by omega, e.1, e.2⟩
    · have : bc n s < bc n t := by
        by_cases e1 : t.testBit n = true
        · have e2 : s.testBit n = true := by
            cases hs : s.testBit n with
            | true => rfl
            | false => exact absurd ⟨e1, hs⟩ e
          rw [if_pos e1, if_pos e2] at h; omega
        · rw [if_neg e1] at h; split at h <;> omega
      obtain ⟨v, h1, h2, h3⟩ := bc_lt_ex this
      exact ⟨v, by omega, h2, h3⟩
/-- From a closed set to a greater closed one there is a way. -/
theorem way_to {n : Nat} {a : List Pr} (h : dgC n a) (hc : acyL (reachL n a)) {U : Nat} (hU : clo a U) (hUn : U < 2 ^ n) : ∀ {k s : Nat}, s < 2 ^ n → clo a s → (∀ v, s.testBit v = true → U.testBit v = true) → bc n U = bc n s + k →
    ∃ p, okS n (rdA a) s p ∧ p.length = k ∧ stU s p = U
  | 0, s, hs, hcl, hsub, hb => by
    refine ⟨[], trivial, rfl, ?_⟩
    apply Nat.eq_of_testBit_eq
    intro v
    rw [stU, Bool.eq_iff_iff]
    refine ⟨hsub v, fun hv => ?_⟩
    by_cases hvn : v < n
    · cases hsv : s.testBit v with
      | true => rfl
      | false =>
        -- then U has more
        exfalso
        have hs2 : bc n s < bc n U := by
          unfold bc
          exact filter_lt (x := v) (List.mem_range.2 hvn) (fun y hy => hsub y hy) hsv hv
        omega
    · rw [Nat.testBit_lt_two_pow (Nat.lt_of_lt_of_le hUn (Nat.pow_le_pow_right (by decide) (by omega)))] at hv; cases hv
  | k + 1, s, hs, hcl, hsub, hb => by
    obtain ⟨v0, hv0, h1, h2⟩ := bc_lt_ex (n := n) (s := s) (t := U) (by omega)
    obtain ⟨v, ⟨hvn, hvU, hvs⟩, hmin⟩ := least_of h hc (D := fun v => v < n ∧ U.testBit v = true ∧ s.testBit v = false) (Nat.le_refl _) ⟨hv0, h1, h2⟩
    have hr : rdA a s v = true := by
      refine rdA_iff.2 ⟨hvs, fun p hp hpv => ?_⟩
      obtain ⟨f, t, e, hf, ht, _⟩ := arc_ends h hp
      have hfU := hU p hp (by rw [hpv]; exact hvU)
      rw [e] at hfU ⊢
      simp only [Int.toNat_natCast] at hfU ⊢
      cases hfs : s.testBit f with
      | true => rfl
      | false =>
        exfalso
        refine hmin f ⟨hf, hfU, hfs⟩ (rc_arc h ?_)
        rw [e] at hp hpv
        rw [← show (t : Int) = v from hpv]; exact hp
    obtain ⟨p, hp1, hp2, hp3⟩ := way_to h hc hU hUn (k := k) (s := s ||| 2 ^ v) (or_lt n hs (pow_lt n hvn)) (by
        intro p hp hpt
        obtain ⟨f, t, e, hf, ht, _⟩ := arc_ends h hp
        have hr2 := (rdA_iff.1 hr).2 p hp
        have hc2 := hcl p hp
        rw [e] at hpt hr2 hc2 ⊢
        simp only [Int.toNat_natCast] at hpt hr2 hc2 ⊢
        rw [Nat.testBit_or, Nat.testBit_two_pow, Bool.or_eq_true, decide_eq_true_eq] at hpt ⊢
        rcases hpt with e1 | e1
        · exact .inl (hc2 e1)
        · exact .inl (hr2 (by omega)))
      (by
        intro u hu
        rw [Nat.testBit_or, Nat.testBit_two_pow, Bool.or_eq_true, decide_eq_true_eq] at hu
        rcases hu with e | e
        · exact hsub u e
        · subst e; exact hvU)
      (by rw [bc_or hvn hvs]; omega)
    exact ⟨v :: p, ⟨hvn, hr, hp1⟩, by rw [List.length_cons, hp2], hp3⟩
def mkS (P : Nat → Bool) : Nat → Nat
  | 0 => 0
  | n + 1 => if P n = true then mkS P n ||| 2 ^ n else mkS P n
theorem mkS_bit (P : Nat → Bool) (v : Nat) : ∀ n, (mkS P n).testBit v = (decide (v < n) && P v)
  | 0 => by simp [mkS]
  | n + 1 => by
    have ih := mkS_bit P v n
    rw [mkS]
    by_cases hp : P n = true
    · rw [if_pos hp, Nat.testBit_or, ih, Nat.testBit_two_pow]
      by_cases e : n = v
      · subst e; simp [hp]
      · rw [show decide (n = v) = false from decide_eq_false e, Bool.or_false, show decide (v < n + 1) = decide (v < n) from decide_eq_decide.2 (by omega)]
    · rw [if_neg hp, ih]
      by_cases e : n = v
      · subst e; simp [Bool.eq_false_iff.2 hp]
      · rw [show decide (v < n + 1) = decide (v < n) from decide_eq_decide.2 (by omega)]
theorem mkS_lt (P : Nat → Bool) : ∀ n, mkS P n < 2 ^ n
  | 0 => Nat.one_pos
  | n + 1 => by
    have := mkS_lt P n
    rw [mkS]; split
    · exact or_lt _ (Nat.lt_of_lt_of_le this (Nat.pow_le_pow_right (by decide) (by omega))) (pow_lt _ (by omega))
    · exact Nat.lt_of_lt_of_le this (Nat.pow_le_pow_right (by decide) (by omega))
theorem bc_mkS (P : Nat → Bool) (n : Nat) : bc n (mkS P n) = ((List.range n).filter P).length := by
  unfold bc
  refine congrArg List.length (List.filter_congr fun v hv => ?_)
  rw [mkS_bit, decide_eq_true (List.mem_range.1 hv), Bool.true_and]
theorem clo_full {n : Nat} {a : List Pr} (h : dgC n a) : clo a (2 ^ n - 1) := by
  intro p hp _
  obtain ⟨f, t, e, hf, _⟩ := arc_ends h hp
  rw [e, Nat.testBit_two_pow_sub_one]
  simpa using hf
/-- A sequence through a closed set and one that is ready there. -/
theorem seq_thru {n : Nat} {a : List Pr} (h : dgC n a) (hc : acyL (reachL n a)) {P : Nat → Bool} {v : Nat} (hv : v < n) (hcl : clo a (mkS P n)) (hr : rdA a (mkS P n) v = true) :
    ∃ p q, p ++ v :: q ∈ seqsL n a ∧ p.length = ((List.range n).filter P).length ∧ ∀ u, u ∈ p ↔ (u < n ∧ P u = true) := by
  obtain ⟨p, h1, h2, h3⟩ := way_to h hc hcl (mkS_lt P n) (k := bc n (mkS P n)) (s := 0) (Nat.pow_pos (by decide)) (fun p _ hp => by rw [Nat.zero_testBit] at hp; cases hp) (fun v hv => by rw [Nat.zero_testBit] at hv; cases hv) (by rw [bc_zero, Nat.zero_add])
  have hcl2 : clo a (mkS P n ||| 2 ^ v) := by
    intro p hp hpt
    obtain ⟨f, t, e, hf, ht, _⟩ := arc_ends h hp
    have hr2 := (rdA_iff.1 hr).2 p hp
    have hc2 := hcl p hp
    rw [e] at hpt hr2 hc2 ⊢
    simp only [Int.toNat_natCast] at hpt hr2 hc2 ⊢
    rw [Nat.testBit_or, Nat.testBit_two_pow, Bool.or_eq_true, decide_eq_true_eq] at hpt ⊢
    rcases hpt with e1 | e1
    · exact .inl (hc2 e1)
    · exact .inl (hr2 (by omega))
  have hbl := bc_le n (mkS P n ||| 2 ^ v)
  have hor := bc_or (n := n) hv (rdA_bit hr)
  obtain ⟨q, g1, g2, g3⟩ := way_to h hc (clo_full h) (by have : 0 < 2 ^ n := Nat.pow_pos (by decide); omega) (k := n - bc n (mkS P n ||| 2 ^ v)) (s := mkS P n ||| 2 ^ v) (or_lt n (mkS_lt P n) (pow_lt n hv)) hcl2
    (fun u hu => by
      rw [Nat.testBit_two_pow_sub_one]
      rcases Nat.lt_or_ge u n with e | e
      · exact decide_eq_true e
      · rw [Nat.testBit_lt_two_pow (Nat.lt_of_lt_of_le (or_lt n (mkS_lt P n) (pow_lt n hv)) (Nat.pow_le_pow_right (by decide) e))] at hu; cases hu)
    (by rw [bc_top]; omega)
  refine ⟨p, q, mem_sq.2 ⟨by rw [List.length_append, List.length_cons, h2, g2]; omega, okS_app.2 ⟨h1, hv, by rw [h3]; exact hr, by rw [h3]; exact g1⟩⟩, by rw [h2, bc_mkS], fun u => ?_⟩
  have := stU_bit (v := u) (p := p) (s := 0)
  rw [h3, mkS_bit, Nat.zero_testBit, Bool.and_eq_true, decide_eq_true_eq] at this
  rw [this]; simp
/-- One sequence has exactly those before a vertex that reach it; one exactly those behind it that it reaches. -/
theorem seq_low {n : Nat} {a : List Pr} (h : dgC n a) (hc : acyL (reachL n a)) {v : Nat} (hv : v < n) : ∃ p q, p ++ v :: q ∈ seqsL n a ∧ p.length = ancN n a v ∧ ∀ u, u ∈ p ↔ rc n a u v := by
  obtain ⟨p, q, h1, h2, h3⟩ := seq_thru h hc (P := fun u => decide (rc n a u v)) hv (by
      intro p hp hpt
      obtain ⟨f, t, e, hf, ht, _⟩ := arc_ends h hp
      rw [e] at hpt hp ⊢
      simp only [Int.toNat_natCast] at hpt ⊢
      rw [mkS_bit, Bool.and_eq_true, decide_eq_true_eq, decide_eq_true_eq] at hpt ⊢
      exact ⟨hf, rc_trans h (rc_arc h hp) hpt.2⟩)
    (by
      refine rdA_iff.2 ⟨by rw [mkS_bit, decide_eq_false (acy_rc.1 hc v), Bool.and_false], fun p hp hpv => ?_⟩
      obtain ⟨f, t, e, hf, ht, _⟩ := arc_ends h hp
      rw [e] at hpv hp ⊢
      simp only [Int.toNat_natCast] at hpv ⊢
      rw [mkS_bit, Bool.and_eq_true, decide_eq_true_eq, decide_eq_true_eq]
      exact ⟨hf, rc_arc h (by rw [← hpv]; exact hp)⟩)
  exact ⟨p, q, h1, h2, fun u => by rw [h3 u, decide_eq_true_eq]; exact ⟨fun e => e.2, fun e => ⟨(rc_lt h e).1, e⟩⟩⟩
theorem seq_high {n : Nat} {a : List Pr} (h : dgC n a) (hc : acyL (reachL n a)) {v : Nat} (hv : v < n) : ∃ p q, p ++ v :: q ∈ seqsL n a ∧ (∀ u, u ∈ p ↔ (u < n ∧ u ≠ v ∧ ¬ rc n a v u)) := by
  obtain ⟨p, q, h1, h2, h3⟩ := seq_thru h hc (P := fun u => decide (u ≠ v ∧ ¬ rc n a v u)) hv (by
      intro p hp hpt
      obtain ⟨f, t, e, hf, ht, _⟩ := arc_ends h hp
      rw [e] at hpt hp ⊢
      simp only [Int.toNat_natCast] at hpt ⊢
      rw [mkS_bit, Bool.and_eq_true, decide_eq_true_eq, decide_eq_true_eq] at hpt ⊢
      exact ⟨hf, fun e => hpt.2.2 (by rw [← e]; exact rc_arc h hp), fun e => hpt.2.2 (rc_trans h e (rc_arc h hp))⟩)
    (by
      refine rdA_iff.2 ⟨by rw [mkS_bit, show decide (v ≠ v ∧ ¬ rc n a v v) = false from decide_eq_false (fun e => e.1 rfl), Bool.and_false], fun p hp hpv => ?_⟩
      obtain ⟨f, t, e, hf, ht, hne⟩ := arc_ends h hp
      rw [e] at hpv hp ⊢
      simp only [Int.toNat_natCast] at hpv ⊢
      have htv : t = v := by omega
      rw [mkS_bit, Bool.and_eq_true, decide_eq_true_eq, decide_eq_true_eq]
      subst htv
      exact ⟨hf, hne, fun e => acy_rc.1 hc t (rc_trans h e (rc_arc h hp))⟩)
  exact ⟨p, q, h1, fun u => by rw [h3 u, decide_eq_true_eq]⟩
end Go.Fw
