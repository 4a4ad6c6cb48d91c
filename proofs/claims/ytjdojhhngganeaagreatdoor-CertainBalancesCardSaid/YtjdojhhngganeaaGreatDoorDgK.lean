/- Chapter 24: what the walk through Place keeps. Plain. -/
import Derived.Test.YtjdojhhngganeaaGreatDoorDgJ
namespace Go.Fw
open Go Go.RowKit Go.Nat9

structure PlA (n : Nat) (a : List Pr) (s v : Nat) (F Z : List Int) : Prop where
  lenF : F.length = 2 ^ n
  lenZ : Z.length = 2 ^ n
  cnt : ∀ t, t < 2 ^ n → F.getD t 0 = ((fw n a s v t : Nat) : Int)
  siz : ∀ t, t < 2 ^ n → 0 < fw n a s v t → Z.getD t 0 = ((bc n t : Nat) : Int)
theorem repl_getD (n i : Nat) : (List.replicate n (0 : Int)).getD i 0 = 0 := by
  rw [List.getD_eq_getElem?_getD, List.getElem?_replicate]; split <;> rfl
theorem PlA.start {n N : Nat} {a : List Pr} (hN : 2 ^ n = N) : PlA n a 0 0 ((List.replicate N 0).set 0 1) (List.replicate N 0) := by
  have hp : 0 < 2 ^ n := Nat.pow_pos (by decide)
  subst hN
  refine ⟨by rw [List.length_set, List.length_replicate], List.length_replicate, fun t ht => ?_, fun t ht h => ?_⟩
  · rw [getD_setI, List.length_replicate, fw_start]
    by_cases e : t = 0
    · subst e; rw [if_pos ⟨rfl, hp⟩, if_pos rfl]; rfl
    · rw [if_neg (fun h => e h.1.symm), if_neg e, repl_getD]; rfl
  · rw [fw_start] at h
    have e : t = 0 := by
      by_cases e : t = 0
      · exact e
      · rw [if_neg e] at h; omega
    subst e
    rw [repl_getD, bc_zero]; rfl
theorem PlA.turn {n : Nat} {a : List Pr} {s : Nat} {F Z : List Int} (h : PlA n a s n F Z) : PlA n a (s + 1) 0 F Z :=
  ⟨h.lenF, h.lenZ, fun t ht => by rw [h.cnt t ht, fw_turn], fun t ht h0 => h.siz t ht (by rw [fw_turn]; exact h0)⟩
theorem PlA.turn2 {n : Nat} {a : List Pr} {s v : Nat} {F Z : List Int} (h : PlA n a s v F Z) (e : v = n) : PlA n a (s + 1) 0 F Z := by subst e; exact h.turn
theorem PlA.cur {n : Nat} {a : List Pr} {s v : Nat} {F Z : List Int} (h : PlA n a s v F Z) (hs : s < 2 ^ n) : F.getD s 0 = ((fcn n a s : Nat) : Int) := by
  rw [h.cnt s hs, fw_done hs (Nat.le_refl _) (by omega)]
theorem PlA.curZ {n : Nat} {a : List Pr} {s v : Nat} {F Z : List Int} (h : PlA n a s v F Z) (hs : s < 2 ^ n) (h0 : 0 < fcn n a s) : Z.getD s 0 = ((bc n s : Nat) : Int) :=
  h.siz s hs (by rw [fw_done hs (Nat.le_refl _) (by omega)]; exact h0)
theorem con1_yes {n : Nat} {a : List Pr} {s v : Nat} (hr : rdA a s v = true) : con1 n a (s ||| 2 ^ v) s v = fcn n a s := if_pos ⟨hr, rfl⟩
theorem PlA.room {n : Nat} {a : List Pr} {s v : Nat} {F Z : List Int} (h : PlA n a s v F Z) (hn : n ≤ 10) (hs : s < 2 ^ n) (hv : v < n) (hr : rdA a s v = true) :
    ∃ q : Nat, F.getD (s ||| 2 ^ v) 0 = (q : Int) ∧ q + fcn n a s ≤ 10000000000 := by
  have ho : s ||| 2 ^ v < 2 ^ n := or_lt n hs (pow_lt n hv)
  refine ⟨fw n a s v (s ||| 2 ^ v), h.cnt _ ho, ?_⟩
  rw [← con1_yes hr, ← fw_next]
  exact Nat.le_trans (fw_le ho hs hv) (fcn_le hn _)
theorem PlA.yes {n : Nat} {a : List Pr} {s v : Nat} {F Z : List Int} (h : PlA n a s v F Z) (hs : s < 2 ^ n) (hv : v < n) (hr : rdA a s v = true) :
    PlA n a s (v + 1) (F.set (s ||| 2 ^ v) (F.getD (s ||| 2 ^ v) 0 + ((fcn n a s : Nat) : Int))) (Z.set (s ||| 2 ^ v) (((bc n s : Nat) : Int) + 1)) := by
  have ho : s ||| 2 ^ v < 2 ^ n := or_lt n hs (pow_lt n hv)
  refine ⟨by rw [List.length_set, h.lenF], by rw [List.length_set, h.lenZ], fun t ht => ?_, fun t ht h0 => ?_⟩
  · rw [getD_setI, h.lenF, fw_next]
    by_cases e : s ||| 2 ^ v = t
    · subst e
      rw [if_pos ⟨rfl, ho⟩, h.cnt _ ho, con1_yes hr]; rfl
    · rw [if_neg (fun h => e h.1), h.cnt t ht, show con1 n a t s v = 0 from if_neg (fun h => e h.2)]; rfl
  · rw [getD_setI, h.lenZ]
    by_cases e : s ||| 2 ^ v = t
    · subst e
      rw [if_pos ⟨rfl, ho⟩, bc_or hv (rdA_bit hr)]; rfl
    · rw [if_neg (fun h => e h.1)]
      rw [fw_next, show con1 n a t s v = 0 from if_neg (fun h => e h.2)] at h0
      exact h.siz t ht h0
theorem PlA.no {n : Nat} {a : List Pr} {s v : Nat} {F Z : List Int} (h : PlA n a s v F Z) (hc : rdA a s v = false ∨ fcn n a s = 0) : PlA n a s (v + 1) F Z := by
  have h0 : ∀ t, con1 n a t s v = 0 := fun t => by
    unfold con1
    rcases hc with e | e
    · exact if_neg fun h => by rw [e] at h; cases h.1
    · rw [e]; split <;> rfl
  exact ⟨h.lenF, h.lenZ, fun t ht => by rw [fw_next, h0, Nat.add_zero]; exact h.cnt t ht, fun t ht hp => h.siz t ht (by rw [fw_next, h0, Nat.add_zero] at hp; exact hp)⟩
/-- When all sets are through. -/
theorem PlA.done {n N : Nat} {a : List Pr} {F Z : List Int} (hN : 2 ^ n = N) (h : PlA n a N 0 F Z) : (∀ t, t < N → F.getD t 0 = ((fcn n a t : Nat) : Int)) ∧ (∀ t, t < N → 0 < fcn n a t → Z.getD t 0 = ((bc n t : Nat) : Int)) := by
  subst hN
  exact ⟨fun t ht => by rw [h.cnt t ht, fw_done ht (by omega) (Nat.le_refl _)], fun t ht h0 => h.siz t ht (by rw [fw_done ht (by omega) (Nat.le_refl _)]; exact h0)⟩
structure PlB (n : Nat) (a : List Pr) (i s : Nat) (O : List Int) : Prop where
  len : O.length = n
  cnt : ∀ k, k < n → O.getD k 0 = ((sm (pwt n a i k) s : Nat) : Int)
theorem PlB.start (n : Nat) (a : List Pr) (i : Nat) : PlB n a i 0 (List.replicate n 0) := ⟨List.length_replicate, fun k _ => by rw [repl_getD, sm]; rfl⟩
theorem PlB.room {n : Nat} {a : List Pr} {i s : Nat} {O : List Int} (h : PlB n a i s O) (hn : n ≤ 10) (hi : i < n) (hs : s < 2 ^ n) (hr : rdA a s i = true) :
    bc n s < n ∧ ∃ q p : Nat, O.getD (bc n s) 0 = (q : Int) ∧ ((fcn n a s : Nat) : Int) * ((cwL n a (s ||| 2 ^ i) : Nat) : Int) = (p : Int) ∧ q + p ≤ 10000000000 ∧ pwt n a i (bc n s) s = p := by
  have hb : bc n s < n := by
    have := bc_or hi (rdA_bit hr)
    have := bc_le n (s ||| 2 ^ i)
    omega
  refine ⟨hb, sm (pwt n a i (bc n s)) s, fcn n a s * cwL n a (s ||| 2 ^ i), h.cnt _ hb, (Int.natCast_mul _ _).symm, ?_, if_pos ⟨rfl, hr⟩⟩
  have h1 := pw_le (a := a) hi hb (show s + 1 ≤ 2 ^ n from hs)
  rw [sm, show pwt n a i (bc n s) s = fcn n a s * cwL n a (s ||| 2 ^ i) from if_pos ⟨rfl, hr⟩] at h1
  exact Nat.le_trans h1 (plc_le hn i _)
theorem PlB.yes {n : Nat} {a : List Pr} {i s p : Nat} {O : List Int} (h : PlB n a i s O) (hb : bc n s < n) (hp : pwt n a i (bc n s) s = p) : PlB n a i (s + 1) (O.set (bc n s) (O.getD (bc n s) 0 + (p : Int))) := by
  refine ⟨by rw [List.length_set, h.len], fun k hk => ?_⟩
  rw [getD_setI, h.len, sm]
  by_cases e : bc n s = k
  · subst e; rw [if_pos ⟨rfl, hb⟩, h.cnt _ hb, hp]; rfl
  · rw [if_neg (fun h => e h.1), h.cnt k hk, show pwt n a i k s = 0 from if_neg (fun h => e h.1)]; rfl
theorem PlB.no {n : Nat} {a : List Pr} {i s : Nat} {O : List Int} (h : PlB n a i s O) (hc : rdA a s i = false ∨ fcn n a s = 0) : PlB n a i (s + 1) O := by
  refine ⟨h.len, fun k hk => ?_⟩
  have h0 : pwt n a i k s = 0 := by
    unfold pwt
    rcases hc with e | e
    · exact if_neg fun h => by rw [e] at h; cases h.2
    · rw [e, Nat.zero_mul]; split <;> rfl
  rw [sm, h0, Nat.add_zero]; exact h.cnt k hk
theorem ext_getD {l m : List Int} (h : l.length = m.length) (he : ∀ k, k < l.length → l.getD k 0 = m.getD k 0) : l = m := by
  refine List.ext_getElem h fun k h1 h2 => ?_
  have := he k h1
  rw [List.getD_eq_getElem?_getD, List.getD_eq_getElem?_getD, List.getElem?_eq_getElem h1, List.getElem?_eq_getElem h2] at this
  exact this
theorem PlB.done {n N : Nat} {a : List Pr} {i : Nat} {O : List Int} (hN : 2 ^ n = N) (hi : i < n) (h : PlB n a i N O) : O = placeL n a i := by
  subst hN
  refine ext_getD (by rw [h.len, placeL_len]) fun k hk => ?_
  rw [h.len] at hk
  rw [h.cnt k hk, placeL_at hk, plc_sum hi hk]
def plcE (n : Int) (a : List Pr) (i : Int) : Int := if seqE n a = 0 then (if 0 ≤ i ∧ i < n then 0 else 2) else seqE n a
def plcR (n : Int) (a : List Pr) (i : Int) : List Int := if plcE n a i = 0 then placeL n.toNat a i.toNat else []
theorem plc_no {n i : Int} {a : List Pr} (h : ¬ seqE n a = 0) : plcR n a i = [] ∧ plcE n a i = seqE n a := by
  have : plcE n a i = seqE n a := if_neg h
  exact ⟨by unfold plcR; rw [this, if_neg h], this⟩
theorem plc_bad {n i : Int} {a : List Pr} (h : seqE n a = 0) (h2 : ¬ (0 ≤ i ∧ i < n)) : plcR n a i = [] ∧ plcE n a i = 2 := by
  have : plcE n a i = 2 := by unfold plcE; rw [if_pos h, if_neg h2]
  exact ⟨by unfold plcR; rw [this]; rfl, this⟩
theorem plc_ok {n i : Nat} {a : List Pr} (h : Cert n a) (h2 : i < n) : plcR n a i = placeL n a i ∧ plcE n a i = 0 := by
  have : plcE n a i = 0 := by unfold plcE; rw [if_pos h.ok, if_pos ⟨by omega, by omega⟩]
  exact ⟨by unfold plcR; rw [this, if_pos rfl, Int.toNat_natCast, Int.toNat_natCast], this⟩
theorem plcR_len (n i : Int) (a : List Pr) : (plcR n a i).length ≤ 10 := by
  by_cases h : plcE n a i = 0
  · unfold plcR
    rw [if_pos h, placeL_len]
    have h0 : seqE n a = 0 := by
      unfold plcE at h
      by_cases e : seqE n a = 0
      · exact e
      · rw [if_neg e] at h; exact absurd h e
    have := (seqE_zero h0).2.1
    omega
  · unfold plcR; rw [if_neg h]; exact Nat.zero_le _
end Go.Fw
