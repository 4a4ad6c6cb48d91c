/- Plain facts on naturals as lists of limbs below 10^9. No program here. -/
import Derived.Test.YtmambmpohkollaaGreatDoorFwA
import Derived.Lib.LazyBuf
namespace Go.Nat9

def B : Nat := 1000000000
def val : List Nat → Nat
  | [] => 0
  | a :: l => a + 1000000000 * val l
def Dig (L : List Nat) : Prop := ∀ a ∈ L, a < 1000000000
theorem Dig.nil : Dig [] := fun _ h => by cases h
theorem Dig.cons {a : Nat} {L : List Nat} (h : a < 1000000000) (h' : Dig L) : Dig (a :: L) := fun b hb => by
  rcases List.mem_cons.1 hb with rfl | hb
  · exact h
  · exact h' b hb
theorem Dig.head {a : Nat} {L : List Nat} (h : Dig (a :: L)) : a < 1000000000 := h a List.mem_cons_self
theorem Dig.tail {a : Nat} {L : List Nat} (h : Dig (a :: L)) : Dig L := fun b hb => h b (List.mem_cons_of_mem _ hb)
theorem Dig.append {L M : List Nat} (h : Dig L) (h' : Dig M) : Dig (L ++ M) := fun b hb => by
  rcases List.mem_append.1 hb with hb | hb
  · exact h b hb
  · exact h' b hb
theorem Dig.take {L : List Nat} (h : Dig L) (k : Nat) : Dig (L.take k) := fun b hb => h b (List.mem_of_mem_take hb)
theorem Dig.drop {L : List Nat} (h : Dig L) (k : Nat) : Dig (L.drop k) := fun b hb => h b (List.mem_of_mem_drop hb)
theorem Dig.getD {L : List Nat} (h : Dig L) (k : Nat) : L.getD k 0 < 1000000000 := by
  rw [List.getD_eq_getElem?_getD]
  cases hk : L[k]? with
  | none => simp
  | some a => exact h a (List.mem_of_getElem? hk)
theorem Dig.set {L : List Nat} (h : Dig L) (k n : Nat) (hn : n < 1000000000) : Dig (L.set k n) := fun b hb => by
  rcases List.mem_or_eq_of_mem_set hb with hb | rfl
  · exact h b hb
  · exact hn
theorem Dig.replicate (k : Nat) : Dig (List.replicate k 0) := fun b hb => by
  rw [(List.mem_replicate.1 hb).2]; decide

theorem val_append : ∀ (L M : List Nat), val (L ++ M) = val L + 1000000000 ^ L.length * val M
  | [], M => by simp [val]
  | a :: L, M => by
    simp only [List.cons_append, val, List.length_cons]
    rw [val_append L M, Nat.mul_add, Nat.pow_succ, Nat.add_assoc]
    congr 2
    rw [← Nat.mul_assoc, Nat.mul_comm (1000000000 ^ L.length) 1000000000]
theorem val_snoc (L : List Nat) (a : Nat) : val (L ++ [a]) = val L + 1000000000 ^ L.length * a := by
  rw [val_append]; simp [val]
theorem val_lt : ∀ {L : List Nat}, Dig L → val L < 1000000000 ^ L.length
  | [], _ => by simp [val]
  | a :: L, h => by
    have h1 := h.head
    have h2 := val_lt h.tail
    simp only [val, List.length_cons, Nat.pow_succ]
    have : 1000000000 * val L + 1000000000 ≤ 1000000000 ^ L.length * 1000000000 := by
      have : 1000000000 * (val L + 1) ≤ 1000000000 * 1000000000 ^ L.length := Nat.mul_le_mul_left _ h2
      rw [Nat.mul_comm (1000000000 ^ L.length)]
      omega
    omega
theorem take_succ_getD (L : List Nat) (k : Nat) (h : k < L.length) : L.take (k + 1) = L.take k ++ [L.getD k 0] := by
  rw [List.take_succ_eq_append_getElem h]
  congr 2
  simp [List.getD_eq_getElem?_getD, h]
theorem val_take_succ (L : List Nat) (k : Nat) (h : k < L.length) : val (L.take (k + 1)) = val (L.take k) + 1000000000 ^ k * L.getD k 0 := by
  rw [take_succ_getD L k h, val_snoc, List.length_take, Nat.min_eq_left (by omega)]
theorem val_drop (L : List Nat) (k : Nat) (h : k < L.length) : val (L.drop k) = L.getD k 0 + 1000000000 * val (L.drop (k + 1)) := by
  rw [List.drop_eq_getElem_cons h, val]
  congr 1
  simp [List.getD_eq_getElem?_getD, h]
theorem val_split (L : List Nat) (k : Nat) (h : k ≤ L.length) : val L = val (L.take k) + 1000000000 ^ k * val (L.drop k) := by
  conv => lhs; rw [← List.take_append_drop k L]
  rw [val_append, List.length_take, Nat.min_eq_left h]

/-! ## The canonical list -/
def limbsOf (n : Nat) : List Nat := if n = 0 then [] else n % 1000000000 :: limbsOf (n / 1000000000)
termination_by n
decreasing_by omega
theorem limbsOf_zero : limbsOf 0 = [] := by rw [limbsOf]; rfl
theorem limbsOf_pos {n : Nat} (h : n ≠ 0) : limbsOf n = n % 1000000000 :: limbsOf (n / 1000000000) := by rw [limbsOf, if_neg h]
theorem val_limbsOf (n : Nat) : val (limbsOf n) = n := by
  induction n using Nat.strongRecOn with
  | _ n ih =>
    by_cases h : n = 0
    · subst h; rw [limbsOf_zero]; rfl
    · rw [limbsOf_pos h, val, ih (n / 1000000000) (by omega)]; omega
theorem dig_limbsOf (n : Nat) : Dig (limbsOf n) := by
  induction n using Nat.strongRecOn with
  | _ n ih =>
    by_cases h : n = 0
    · subst h; rw [limbsOf_zero]; exact Dig.nil
    · rw [limbsOf_pos h]; exact Dig.cons (by omega) (ih _ (by omega))
theorem limbsOf_eq_nil {n : Nat} : limbsOf n = [] ↔ n = 0 := by
  constructor
  · intro h
    have := val_limbsOf n
    rw [h] at this
    exact this.symm
  · rintro rfl; exact limbsOf_zero
/-- The highest limb is not nought. -/
theorem last_limbsOf (n : Nat) : (limbsOf n).getLast? ≠ some 0 := by
  induction n using Nat.strongRecOn with
  | _ n ih =>
    by_cases h : n = 0
    · subst h; rw [limbsOf_zero]; simp
    · rw [limbsOf_pos h]
      by_cases h2 : n / 1000000000 = 0
      · rw [h2, limbsOf_zero]; simp; omega
      · have := ih (n / 1000000000) (by omega)
        rw [List.getLast?_cons]
        cases hl : (limbsOf (n / 1000000000)).getLast? with
        | none =>
          rw [List.getLast?_eq_none_iff, limbsOf_eq_nil] at hl
          exact absurd hl h2
        | some a =>
          rw [hl] at this
          simpa using this
/-! ## Order -/
theorem length_limbsOf_lt {n m : Nat} (h : (limbsOf n).length < (limbsOf m).length) : n < m := by
  have h1 := val_lt (dig_limbsOf n)
  rw [val_limbsOf] at h1
  -- m is at least 10^(9 (length - 1))
  have h2 : 1000000000 ^ ((limbsOf m).length - 1) ≤ m := by
    have hne : limbsOf m ≠ [] := by intro h0; rw [h0] at h; simp at h
    have hs := List.dropLast_concat_getLast hne
    have hlast : (limbsOf m).getLast hne ≠ 0 := fun h0 => last_limbsOf m (by rw [List.getLast?_eq_some_getLast hne, h0])
    have hv := val_limbsOf m
    rw [← hs, val_snoc, List.length_dropLast] at hv
    have : 1000000000 ^ ((limbsOf m).length - 1) * 1 ≤ 1000000000 ^ ((limbsOf m).length - 1) * (limbsOf m).getLast hne := Nat.mul_le_mul_left _ (by omega)
    omega
  have h3 : 1000000000 ^ (limbsOf n).length ≤ 1000000000 ^ ((limbsOf m).length - 1) := Nat.pow_le_pow_right (by decide) (by omega)
  omega
theorem length_limbsOf_le {n m : Nat} (h : n ≤ m) : (limbsOf n).length ≤ (limbsOf m).length := by
  rcases Nat.lt_or_ge (limbsOf m).length (limbsOf n).length with h' | h'
  · have := length_limbsOf_lt h'; omega
  · exact h'
theorem limbsOf_len_of_lt {n k : Nat} (h : n < 1000000000 ^ k) : (limbsOf n).length ≤ k := by
  rcases Nat.lt_or_ge k (limbsOf n).length with h' | h'
  · have hne : limbsOf n ≠ [] := by intro h0; rw [h0] at h'; simp at h'
    have hs := List.dropLast_concat_getLast hne
    have hlast : (limbsOf n).getLast hne ≠ 0 := fun h0 => last_limbsOf n (by rw [List.getLast?_eq_some_getLast hne, h0])
    have hv := val_limbsOf n
    rw [← hs, val_snoc, List.length_dropLast] at hv
    have h1 : 1000000000 ^ k ≤ 1000000000 ^ ((limbsOf n).length - 1) := Nat.pow_le_pow_right (by decide) (by omega)
    have h2 : 1000000000 ^ ((limbsOf n).length - 1) * 1 ≤ 1000000000 ^ ((limbsOf n).length - 1) * (limbsOf n).getLast hne := Nat.mul_le_mul_left _ (by omega)
    omega
  · exact h'
theorem lt_of_limbsOf_len {n k : Nat} (h : (limbsOf n).length ≤ k) : n < 1000000000 ^ k := by
  have h1 := val_lt (dig_limbsOf n)
  rw [val_limbsOf] at h1
  exact Nat.lt_of_lt_of_le h1 (Nat.pow_le_pow_right (by decide) h)
end Go.Nat9

/-! Plain facts for the walks through the naturals' functions: what a step of each loop keeps. No program here. -/
namespace Go.Nat9

theorem drop_set_same (L : List Nat) (k v : Nat) : (L.set k v).drop (k + 1) = L.drop (k + 1) := by
  apply List.ext_getElem?
  intro j
  rw [List.getElem?_drop, List.getElem?_drop, List.getElem?_set_ne (by omega)]
theorem getD_set_ne (L : List Nat) (k j v : Nat) (h : k ≠ j) : (L.set k v).getD j 0 = L.getD j 0 := by
  simp [List.getD_eq_getElem?_getD, List.getElem?_set_ne h]
theorem short_div {V d q r : Nat} (h : V = d * q + r) (hr : r < d) : q = V / d ∧ r = V % d := by
  subst h
  have hd : 0 < d := by omega
  constructor
  · rw [Nat.mul_add_div hd, Nat.div_eq_of_lt hr]; rfl
  · rw [Nat.mul_add_mod, Nat.mod_eq_of_lt hr]

theorem limbsOf_len_pos {n : Nat} (h : 0 < n) : 0 < (limbsOf n).length := by
  rw [List.length_pos_iff]; intro h0; rw [limbsOf_eq_nil] at h0; omega
end Go.Nat9

/- The program logic's rules for struct and slice literals, and slices of limbs as one thing. -/
namespace Go.Fw
open Go Go.RowKit

def getP : List (Nat × Nat) → Nat → Option (Nat × Nat)
  | [], _ => none
  | p :: _, 0 => some p
  | _ :: l, n + 1 => getP l n
theorem getP_eq : ∀ (l : List (Nat × Nat)) (i : Nat), getP l i = l[i]?
  | [], _ => by simp [getP]
  | _ :: _, 0 => by simp [getP]
  | _ :: l, n + 1 => by simpa [getP] using getP_eq l n
/-- A literal's parts, one after the other, over the zero cells. -/
def fillS (offs : List (Nat × Nat)) (cs : List Value) : List (Nat × List Value) → Option (List Value)
  | [] => some cs
  | (i, vs) :: rest => match getP offs i with
    | none => none
    | some (o, s) => bif Nat.beq vs.length s && Nat.ble (o + s) cs.length then fillS offs (setAll cs o vs) rest else none
theorem foldl_set_eq : ∀ (vs : List Value) (a : Array Value) (o k : Nat), (vs.zipIdx k).foldl (fun (cs : Array Value) (x : Value × Nat) => cs.setIfInBounds (o + x.2) x.1) a = (setAll a.toList (o + k) vs).toArray
  | [], a, o, k => by simp [setAll]
  | v :: vs, a, o, k => by
    rw [List.zipIdx_cons, List.foldl_cons, foldl_set_eq vs _ o (k + 1), setAll]
    congr 2
    rw [updL_set]; simp
theorem fill_step {place : Nat → Option (Nat × Nat)} {i o s : Nat} {v : Value} {vs cs : List Value} {rest : List (Nat × Value)} (hp : place i = some (o, s)) (hv : v.cells = vs.toArray) (hs : vs.length = s) (ho : o + s ≤ cs.length) :
    Instr.fill place cs.toArray ((i, v) :: rest) = Instr.fill place (setAll cs o vs).toArray rest := by
  rw [Instr.fill, hp]
  simp only [hv]
  rw [if_neg (by simp [hs]; omega)]
  congr 1
  have h := foldl_set_eq vs cs.toArray o 0
  rw [Nat.add_zero] at h
  simpa using h
theorem fill_eq {place : Nat → Option (Nat × Nat)} {offs : List (Nat × Nat)} (hpl : ∀ i, place i = offs[i]? ∨ offs[i]? = none) : ∀ {pv : List (Nat × Value)} {pvs : List (Nat × List Value)} {cs r : List Value},
    pv.map Prod.fst = pvs.map Prod.fst → pv.map (fun p => p.2.cells) = pvs.map (fun p => p.2.toArray) → fillS offs cs pvs = some r → Instr.fill place cs.toArray pv = some r.toArray
  | [], [], cs, r, _, _, h => by simp [fillS] at h; subst h; rfl
  | [], _ :: _, _, _, h, _, _ => by simp at h
  | _ :: _, [], _, _, h, _, _ => by simp at h
  | (i, v) :: pv, (j, vs) :: pvs, cs, r, h1, h2, h => by
    simp at h1 h2
    obtain ⟨rfl, h1⟩ := h1
    rw [fillS] at h
    cases hg : getP offs i with
    | none => rw [hg] at h; simp at h
    | some q =>
      obtain ⟨o, s⟩ := q
      rw [hg] at h
      simp only at h
      cases hc : (Nat.beq vs.length s && Nat.ble (o + s) cs.length) with
      | false => rw [hc] at h; simp at h
      | true =>
        rw [hc] at h
        simp only [cond_true] at h
        have hc' := hc
        rw [Bool.and_eq_true] at hc'
        have e1 : vs.length = s := Nat.eq_of_beq_eq_true hc'.1
        have e2 : o + s ≤ cs.length := Nat.le_of_ble_eq_true hc'.2
        have hpi : place i = some (o, s) := by
          rcases hpl i with h' | h'
          · rw [h', ← getP_eq, hg]
          · rw [← getP_eq, hg] at h'; cases h'
        rw [fill_step hpi h2.1 e1 e2]
        exact fill_eq hpl (by simpa using h1) (by simpa using h2.2) h
/-- A literal's parts, read off the frame. -/
def EvParts (fr : Fr) : List (Nat × Operand) → List (Nat × List Value) → Prop
  | [], l => l = []
  | p :: ps, l => match l with
    | [] => False
    | q :: qs => (p.1 = q.1 ∧ ∃ v, Ev fr p.2 v ∧ v.cells = q.2.toArray) ∧ EvParts fr ps qs
theorem EvParts.eq {fr : Fr} : ∀ {ps : List (Nat × Operand)} {qs : List (Nat × List Value)}, EvParts fr ps qs →
    (ps.map fun p => (p.1, ev fr p.2)).map Prod.fst = qs.map Prod.fst ∧ (ps.map fun p => (p.1, ev fr p.2)).map (fun p => p.2.cells) = qs.map (fun p => p.2.toArray)
  | [], _, h => by rw [show _ = [] from h]; simp
  | p :: ps, [], h => h.elim
  | p :: ps, q :: qs, h => by
    obtain ⟨⟨h1, v, h2, h3⟩, h4⟩ := h
    have ih := EvParts.eq h4
    simp only [List.map_cons, List.cons.injEq]
    refine ⟨⟨h1, ih.1⟩, ?_, ih.2⟩
    show (ev fr p.2).cells = _
    rw [h2.eq, h3]
/-- The fields' places and the zero cells of a struct type. -/
def stOf (P : Program) (T : TypeId) : Option (List (Nat × Nat) × List Value) :=
  match P.underlying T, P.info? T with
  | some (.struct fields), some i => match i.zero, (fields.toList.mapM fun f => (P.info? f.type).map fun i => (f.offset, i.size)) with
    | some z, some l => some (l, z.cells.toList)
    | _, _ => none
  | _, _ => none
theorem mapM_places {P : Program} {w : World} : ∀ {fs : List Field} {l : List (Nat × Nat)}, (fs.mapM fun f => (P.info? f.type).map fun i => (f.offset, i.size)) = some l →
    (fs.mapM fun f => (do pure (f.offset, ← sizeOf f.type) : Sem (Nat × Nat))).run P w = .ok l w
  | [], l, h => by simp at h; subst h; rfl
  | f :: fs, l, h => by
    rw [List.mapM_cons] at h
    cases hi : P.info? f.type with
    | none => simp [hi] at h
    | some i =>
      cases hr : (fs.mapM fun f => (P.info? f.type).map fun i => (f.offset, i.size)) with
      | none => simp [hi, hr] at h
      | some l' =>
        simp [hi, hr] at h
        subst h
        rw [List.mapM_cons]
        have ih := mapM_places (w := w) hr
        simp only [Sem.run_bind, sizeOf, typeInfo, run_program, hi, Result.andThen_ok, Sem.run_pure] at ih ⊢
        simp only [ih, Result.andThen_ok]

section
variable {P : Program} {Q : Exit → Act → World → Prop} {w0 : Ctx} {σ σ' : List Res} {φ φ' : List (Bool × VP)} {fr : Fr} {ops : Array Oper} {rest : List Oper}
  {d : Nat} {ty : TypeId} {pos : String} {aft : Array Edge}
/-- 'T{..}' -/
theorem JL_build {T : TypeId} {offs : List (Nat × Nat)} {zs cs : List Value} {parts : List (Nat × Operand)} (pvs : List (Nat × List Value)) (hs : stOf P T = some (offs, zs)) (hp : EvParts fr parts pvs) (hf : fillS offs zs pvs = some cs)
    (k : JL P ops Q w0 σ φ rest (upd fr d (.agg cs.toArray))) : JL P ops Q w0 σ φ (⟨some d, .build T parts.toArray, ty, pos, aft, none⟩ :: rest) fr := by
  refine JL_pure _ (fun w => ?_) k
  unfold stOf at hs
  split at hs
  · rename_i fields i hu hi
    split at hs
    · rename_i z l hz hl
      simp only [Option.some.injEq, Prod.mk.injEq] at hs
      obtain ⟨rfl, rfl⟩ := hs
      obtain ⟨e1, e2⟩ := hp.eq
      have hm := mapM_places (P := P) (w := w) hl
      have hm' : (fields.mapM fun f => (do pure (f.offset, ← sizeOf f.type) : Sem (Nat × Nat))).run P w = .ok l.toArray w := by
        rw [show fields = fields.toList.toArray from (Array.toArray_toList).symm, List.mapM_toArray, Sem.run_map, hm]; rfl
      have hfill := fill_eq (place := (l.toArray[·]?)) (offs := l) (fun i => .inl (by simp)) e1 e2 hf
      simp only [execOp, List.map_toArray, Instr.build, Sem.run_bind, zeroValue, typeInfo, run_program, hi, hz, Result.andThen_ok, Sem.run_pure, run_underlying hu, hm'] 
      simp only [Array.toArray_toList] at hfill
      rw [hfill]
      simp
    · cases hs
  · cases hs
/-- '[]T{..}' -/
theorem JL_buildN {t e : TypeId} {sz by' n : Nat} {zs cs0 cs : List Value} {parts : List (Nat × Operand)} (pvs : List (Nat × List Value)) (hs : slOf P t = some (e, sz, by', zs)) (hz : (Array.range (n * sz)).map (zs.toArray[· % zs.toArray.size]!) = cs0.toArray)
    (hp : EvParts fr parts pvs) (hf : fillS ((List.range n).map fun i => (i * sz, sz)) cs0 pvs = some cs) (hsmall : Nat.ble (n * sz) 16777216 = true) (hsmall2 : Nat.ble n 16777216 = true) (hlen : cs.length = n * sz)
    (k : ∀ g, JL P ops Q w0 (σ ++ [osl (some ⟨g, 0, none⟩) n n e sz cs]) φ rest (upd fr d (.slice (some ⟨g, 0, none⟩) n n))) :
    JL P ops Q w0 σ φ (⟨some d, .buildSlice t n parts.toArray, ty, pos, aft, none⟩ :: rest) fr := by
  obtain ⟨e1, e2⟩ := hp.eq
  refine JL_buildSlice (pv := parts.map fun p => (p.1, ev fr p.2)) (vs := cs) hs (by simp) (Nat.le_of_ble_eq_true hsmall) (Nat.le_of_ble_eq_true hsmall2) hlen ?_ k
  rw [hz]
  refine fill_eq (offs := (List.range n).map fun i => (i * sz, sz)) (fun i => ?_) e1 e2 hf
  by_cases hi : i < n
  · left; simp [hi]
  · right; simp; omega
end

/-! ## A slice of limbs as one thing -/
structure Sl where
  ad : Option Addr
  cap : Nat
  L : List Nat
abbrev Sl.v (s : Sl) : Value := .slice s.ad s.L.length s.cap
abbrev Sl.w (s : Sl) : VP := vCells s.ad (u32s s.L)
abbrev Sl.n (s : Sl) : Value := .agg #[.slice s.ad s.L.length s.cap]
def Sl.ok (s : Sl) : Prop := s.L.length ≤ s.cap ∧ s.cap ≤ 9223372036854775807
def Sl.nil : Sl := ⟨none, 0, []⟩
/-- A natural that is n, in canonical limbs. -/
def Sl.is (s : Sl) (n : Nat) : Prop := s.L = Nat9.limbsOf n
/-- Limbs as the machine holds them. -/
def U32 (L : List Nat) : Prop := ∀ a ∈ L, a < 4294967296
theorem U32.getD {L : List Nat} (h : U32 L) (k : Nat) : L.getD k 0 < 4294967296 := by
  rw [List.getD_eq_getElem?_getD]
  cases hk : L[k]? with
  | none => simp
  | some a => exact h a (List.mem_of_getElem? hk)
theorem U32.ofDig {L : List Nat} (h : Nat9.Dig L) : U32 L := fun a ha => Nat.lt_trans (h a ha) (by decide)
/-- A fraction's parts. -/
structure Fq where
  neg : Bool
  num : Sl
  den : Sl
abbrev Fq.v (x : Fq) : Value := .agg #[.bool x.neg, .slice x.num.ad x.num.L.length x.num.cap, .slice x.den.ad x.den.L.length x.den.cap]
/-- New views ahead of the old ones. -/
abbrev mapB (b : Bool) : List VP → List (Bool × VP) → List (Bool × VP)
  | [], φ => φ
  | p :: l, φ => (b, p) :: mapB b l φ
theorem mapB_eq (b : Bool) : ∀ (l : List VP) (φ : List (Bool × VP)), mapB b l φ = l.map (fun p => (b, p)) ++ φ
  | [], _ => rfl
  | p :: l, φ => congrArg ((b, p) :: ·) (mapB_eq b l φ)
theorem mapB_l {b : Bool} {l : List VP} {φ : List (Bool × VP)} {p : VP} (h : p ∈ l) : (b, p) ∈ mapB b l φ := by rw [mapB_eq]; exact List.mem_append_left _ (List.mem_map.2 ⟨p, h, rfl⟩)
theorem mapB_r {b : Bool} {l : List VP} {φ : List (Bool × VP)} {p : Bool × VP} (h : p ∈ φ) : p ∈ mapB b l φ := by rw [mapB_eq]; exact List.mem_append_right _ h
section
variable {w0 : Ctx} {σ : List Res} {φ : List (Bool × VP)}
end
section
variable {P : Program} {Q : Exit → Act → World → Prop} {w0 : Ctx} {σ σ' : List Res} {φ φ' : List (Bool × VP)} {fr : Fr} {ops : Array Oper} {rest : List Oper}
  {d : Nat} {ty : TypeId} {pos : String} {aft : Array Edge}
theorem JL_callF' {f : FuncId} {x : Operand} {xs : List Operand} {ts : Array TypeId} {vs : List Value} {φin : List VP} {Post : Value → List VP → Prop}
    (hin : Asks w0 σ φ φin) (con : ConF P f vs φin Post) (hf : Ev fr x (.func (.func f) #[] #[])) (hc : callable P f = true) (ha : EvL fr xs vs)
    (k : ∀ v φo, Post v φo → JL P ops Q w0 σ (mapB true φo φ) rest (upd fr d v)) :
    JL P ops Q w0 σ φ (⟨some d, .call { callee := .value x, args := xs.toArray, argTypes := ts }, ty, pos, aft, none⟩ :: rest) fr := JL_callF con hf hc ha hin fun v φo h => mapB_eq true φo φ ▸ k v φo h
theorem JL_callA' {f : FuncId} {x : Operand} {xs : List Operand} {ts : Array TypeId} {vs : List Value} {φin : List VP} {Post : Value → List VP → Prop} (b : Bool)
    (hin : AsksA w0 σ φ b φin) (con : ConA P f vs φin Post) (hf : Ev fr x (.func (.func f) #[] #[])) (hc : callable P f = true) (ha : EvL fr xs vs)
    (k : ∀ v φo, Post v φo → JL P ops Q w0 σ (mapB b φo φ) rest (upd fr d v)) :
    JL P ops Q w0 σ φ (⟨some d, .call { callee := .value x, args := xs.toArray, argTypes := ts }, ty, pos, aft, none⟩ :: rest) fr := JL_callA b con hf hc ha hin fun v φo h => mapB_eq b φo φ ▸ k v φo h
theorem JL_splitEqB {a b : Bool} {l : List Oper} (ht : a = b → JL P ops Q w0 σ φ l (upd fr d (.bool true))) (hf : a ≠ b → JL P ops Q w0 σ φ l (upd fr d (.bool false))) : JL P ops Q w0 σ φ l (upd fr d (.bool (a == b))) := by
  by_cases h : a = b
  · rw [beq_iff_eq.2 h]; exact ht h
  · rw [beq_eq_false_iff_ne.2 h]; exact hf h
/-- A slot's truth value, known or not, taken apart. -/
theorem JL_splitV {b : Bool} {l : List Oper} (ht : b = true → JL P ops Q w0 σ φ l (upd fr d (.bool true))) (hf : b = false → JL P ops Q w0 σ φ l (upd fr d (.bool false))) : JL P ops Q w0 σ φ l (upd fr d (.bool b)) := by
  cases b with
  | true => exact ht rfl
  | false => exact hf rfl
theorem JC_drawT {n : Nat} {b : List Value} (hm : P.follows .mixedOrders = true) {id : Nat} {l : List Oper} (np : Nat) (ss : List Sp) (hob : OblsS P l w0 σ φ n b ss ss l) (hok : drawOk l np (ss.map fun s => (s.d, s.preds)) = true)
    (hfin : ∀ vals bs, JL P l.toArray Q w0 (σ ++ madeS bs ss 0) (allPosts vals ss 0 ++ φ) (l.drop np) ⟨n, pendsF vals bs ss 0, b⟩) :
    JC P (.region id l.toArray true) Q w0 σ φ ⟨n, [], b⟩ := JC_drawS hm np n ss hok hob hfin
theorem JL_storeI {T E : TypeId} {x y : Operand} {ad : Option Addr} {n cap j : Nat} {L : List Int} {a : Int} (i : Nat) (hT : tyOf P T = some (false, 1)) (hx : Ev fr x (ptrAt ad j)) (hy : Ev fr y (.int .i64 a))
    (hσ : Nth σ i (osl ad n cap E 1 (i64s L))) (hj : j < L.length) (k : JL P ops Q w0 (updL σ i (osl ad n cap E 1 (i64s (L.set j a)))) φ rest fr) : JL P ops Q w0 σ φ (⟨none, .store T x y, ty, pos, aft, none⟩ :: rest) fr := by
  refine JL_storeE (vs := [.int .i64 a]) i hT (Nat.lt_succ_self 0) hx hy rfl (AllOne.cons rfl AllOne.nil) hσ (by rw [i64s_length]; exact hj) ?_
  rw [i64s_set]; exact k
end
end Go.Fw

/- Plain facts for long division and for the values of limbs. No program here. -/
namespace Go.Nat9

theorem Bpos (k : Nat) : 0 < 1000000000 ^ k := Nat.pow_pos (by decide)
theorem val_drop_div {L : List Nat} (h : Dig L) (j : Nat) : val (L.drop j) = val L / 1000000000 ^ j := by
  by_cases hj : j ≤ L.length
  · have h1 := val_lt (h.take j)
    rw [List.length_take, Nat.min_eq_left hj] at h1
    rw [val_split L j hj, Nat.add_comm, Nat.mul_add_div (Bpos j), Nat.div_eq_of_lt h1]; rfl
  · rw [List.drop_of_length_le (by omega)]
    have h1 := val_lt h
    have h2 : 1000000000 ^ L.length ≤ 1000000000 ^ j := Nat.pow_le_pow_right (by decide) (by omega)
    rw [Nat.div_eq_of_lt (by omega)]; rfl
/-- What one turn of the long division keeps. -/
structure DivInv (N V lq : Nat) (U q : List Nat) (j : Nat) : Prop where
  du : Dig U
  dq : Dig q
  lq : q.length = lq
  zero : ∀ i, i < j → q.getD i 0 = 0
  eq : N = V * (1000000000 ^ j * val (q.drop j)) + val U
  lt : val U < V * 1000000000 ^ j
theorem DivInv.part_lt {N V lq : Nat} {U q : List Nat} {j : Nat} (h : DivInv N V lq U q (j + 1)) : val (U.drop j) < V * 1000000000 := by
  rw [val_drop_div h.du, Nat.div_lt_iff_lt_mul (Bpos j), Nat.mul_assoc, Nat.mul_comm 1000000000, ← Nat.pow_succ]; exact h.lt
theorem DivInv.skip {N V lq : Nat} {U q : List Nat} {j : Nat} (h : DivInv N V lq U q (j + 1)) (hj : j < lq) (hP : val (U.drop j) < V) : DivInv N V lq U q j where
  du := h.du
  dq := h.dq
  lq := h.lq
  zero := fun i hi => h.zero i (by omega)
  eq := by
    have h0 : j < q.length := by rw [h.lq]; exact hj
    rw [val_drop q j h0, h.zero j (by omega), Nat.zero_add, ← Nat.mul_assoc (1000000000 ^ j), ← Nat.pow_succ]; exact h.eq
  lt := by rw [val_drop_div h.du, Nat.div_lt_iff_lt_mul (Bpos j)] at hP; exact hP
theorem DivInv.put {N V lq : Nat} {U q : List Nat} {j g : Nat} (h : DivInv N V lq U q (j + 1)) (hj : j < lq) (hju : j ≤ U.length) (hg : g = val (U.drop j) / V) (hV : 0 < V) :
    DivInv N V lq (U.take j ++ limbsOf (val (U.drop j) - V * g)) (q.set j g) j := by
  have hg9 : g < 1000000000 := by rw [hg, Nat.div_lt_iff_lt_mul hV, Nat.mul_comm]; exact h.part_lt
  have h0 : j < q.length := by rw [h.lq]; exact hj
  have hval : val (U.take j ++ limbsOf (val (U.drop j) - V * g)) = val (U.take j) + 1000000000 ^ j * (val (U.drop j) - V * g) := by
    rw [val_append, val_limbsOf, List.length_take, Nat.min_eq_left hju]
  have hle : V * g ≤ val (U.drop j) := by rw [hg]; exact Nat.mul_div_le _ _
  have hrem : val (U.drop j) - V * g < V := by
    have := Nat.mod_lt (val (U.drop j)) hV
    have e := Nat.div_add_mod (val (U.drop j)) V
    rw [← hg] at e; omega
  have hlow := val_lt (h.du.take j)
  rw [List.length_take, Nat.min_eq_left hju] at hlow
  refine ⟨(h.du.take j).append (dig_limbsOf _), h.dq.set j g hg9, by rw [List.length_set]; exact h.lq, ?_, ?_, ?_⟩
  · intro i hi; rw [getD_set_ne _ _ _ _ (by omega)]; exact h.zero i (by omega)
  · rw [hval, h.eq, val_drop (q.set j g) j (by rw [List.length_set]; exact h0)]
    have e2 := drop_set_same q j g
    have e3 : (q.set j g).getD j 0 = g := by simp [List.getD_eq_getElem?_getD, h0]
    rw [e2, e3]
    have e4 : val U = val (U.take j) + 1000000000 ^ j * val (U.drop j) := val_split U j hju
    have e5 : 1000000000 ^ j * val (U.drop j) = 1000000000 ^ j * (V * g) + 1000000000 ^ j * (val (U.drop j) - V * g) := by
      rw [← Nat.mul_add, Nat.add_sub_cancel' hle]
    have e6 : V * (1000000000 ^ j * (g + 1000000000 * val (q.drop (j + 1)))) = 1000000000 ^ j * (V * g) + V * (1000000000 ^ (j + 1) * val (q.drop (j + 1))) := by
      rw [Nat.mul_add, Nat.mul_add, Nat.mul_left_comm V, Nat.pow_succ, Nat.mul_assoc (1000000000 ^ j)]
    omega
  · rw [hval]
    have e7 : 1000000000 ^ j * (val (U.drop j) - V * g + 1) ≤ 1000000000 ^ j * V := Nat.mul_le_mul_left _ hrem
    rw [Nat.mul_add, Nat.mul_one] at e7
    rw [Nat.mul_comm V (1000000000 ^ j)]; omega
theorem DivInv.start {N V lq lv : Nat} {U : List Nat} (hd : Dig U) (hN : N = val U) (hl : U.length + 1 = lq + lv) (hV : 1000000000 ^ lv ≤ V * 1000000000) : DivInv N V lq U (List.replicate lq 0) lq where
  du := hd
  dq := Dig.replicate _
  lq := List.length_replicate
  zero := fun i _ => by simp [List.getD_eq_getElem?_getD, List.getElem?_replicate]; split <;> rfl
  eq := by rw [List.drop_of_length_le (by simp)]; simp [val, hN]
  lt := by
    have h1 := val_lt hd
    have h2 : 1000000000 ^ U.length * 1000000000 = 1000000000 ^ lq * 1000000000 ^ lv := by rw [← Nat.pow_add, ← hl, Nat.pow_succ]
    have h3 : 1000000000 ^ lq * 1000000000 ^ lv ≤ 1000000000 ^ lq * (V * 1000000000) := Nat.mul_le_mul_left _ hV
    have h4 : 1000000000 ^ U.length * 1000000000 ≤ (V * 1000000000 ^ lq) * 1000000000 := by
      rw [h2]; refine Nat.le_trans h3 (Nat.le_of_eq ?_)
      rw [Nat.mul_comm V, Nat.mul_assoc V, Nat.mul_left_comm, Nat.mul_left_comm V, Nat.mul_comm V, ← Nat.mul_assoc]; ac_rfl
    have h5 := Nat.le_of_mul_le_mul_right h4 (by decide)
    omega
theorem DivInv.done {N V lq : Nat} {U q : List Nat} (h : DivInv N V lq U q 0) : val q = N / V ∧ val U = N % V := by
  have e := h.eq
  rw [List.drop_zero, Nat.pow_zero, Nat.one_mul] at e
  have l := h.lt
  rw [Nat.pow_zero, Nat.mul_one] at l
  exact short_div e l
theorem len_limbsOf_mul (n m : Nat) : (limbsOf (n * m)).length ≤ (limbsOf n).length + (limbsOf m).length := by
  apply limbsOf_len_of_lt
  rw [Nat.pow_add]
  have h1 := lt_of_limbsOf_len (n := n) (Nat.le_refl _)
  have h2 := lt_of_limbsOf_len (n := m) (Nat.le_refl _)
  exact Nat.mul_lt_mul'' h1 h2
theorem len_limbsOf_add (n m : Nat) : (limbsOf (n + m)).length ≤ max (limbsOf n).length (limbsOf m).length + 1 := by
  apply limbsOf_len_of_lt
  have h1 := lt_of_limbsOf_len (n := n) (k := max (limbsOf n).length (limbsOf m).length) (by omega)
  have h2 := lt_of_limbsOf_len (n := m) (k := max (limbsOf n).length (limbsOf m).length) (by omega)
  rw [Nat.pow_succ]; omega
theorem len_limbsOf_le {n m : Nat} (h : n ≤ m) : (limbsOf n).length ≤ (limbsOf m).length := length_limbsOf_le h
theorem val_lt32 : ∀ {L : List Nat}, (∀ a ∈ L, a < 4294967296) → val L + 5 ≤ 5 * 1000000000 ^ L.length
  | [], _ => by simp [val]
  | a :: L, h => by
    have h1 := val_lt32 (L := L) (fun b hb => h b (List.mem_cons_of_mem _ hb))
    have h2 := h a List.mem_cons_self
    simp only [val, List.length_cons, Nat.pow_succ]
    have := Bpos L.length
    omega
theorem len_limbsOf_val {L : List Nat} (h : ∀ a ∈ L, a < 4294967296) : (limbsOf (val L)).length ≤ L.length + 1 := by
  apply limbsOf_len_of_lt
  have := val_lt32 h
  rw [Nat.pow_succ]
  have := Bpos L.length
  omega
theorem getD_replicate (n l : Nat) : (List.replicate n 0).getD l 0 = 0 := by
  rw [List.getD_eq_getElem?_getD, List.getElem?_replicate]; split <;> rfl
/-- What one turn of the reference's long division keeps. -/
structure RInv (N V lq : Nat) (X : List Nat) (R : Nat) (q : List Nat) (j : Nat) : Prop where
  dX : Dig X
  dq : Dig q
  hq : q.length = lq
  lX : X.length = lq
  zero : ∀ i, i < j → q.getD i 0 = 0
  eq : N = V * (1000000000 ^ j * val (q.drop j)) + 1000000000 ^ j * R + val (X.take j)
  lt : R < V
theorem RInv.start {N V : Nat} {X : List Nat} (hd : Dig X) (hN : N = val X) (hV : 0 < V) : RInv N V X.length X 0 (List.replicate X.length 0) X.length where
  dX := hd
  dq := Dig.replicate _
  hq := List.length_replicate
  lX := rfl
  zero := fun i _ => getD_replicate _ i
  eq := by rw [List.drop_of_length_le (by simp), List.take_length]; simp [val, hN]
  lt := hV
theorem RInv.part_lt {N V lq R : Nat} {X q : List Nat} {j : Nat} (h : RInv N V lq X R q j) (k : Nat) : X.getD k 0 + 1000000000 * R < V * 1000000000 := by
  have := h.dX.getD k
  have := h.lt
  omega
theorem RInv.put {N V lq R P g : Nat} {X q : List Nat} {j : Nat} (h : RInv N V lq X R q (j + 1)) (hj : j < lq) (hP : X.getD j 0 + 1000000000 * R = P) (hg : g = P / V) : RInv N V lq X (P - V * g) (q.set j g) j := by
  have hV : 0 < V := Nat.lt_of_le_of_lt (Nat.zero_le _) h.lt
  have hPV := h.part_lt j
  rw [hP] at hPV
  have hg9 : g < 1000000000 := by rw [hg, Nat.div_lt_iff_lt_mul hV, Nat.mul_comm]; exact hPV
  have h0 : j < q.length := by rw [h.hq]; exact hj
  have hle : V * g ≤ P := by rw [hg]; exact Nat.mul_div_le _ _
  have hrem : P - V * g < V := by
    have := Nat.mod_lt P hV
    have e := Nat.div_add_mod P V
    rw [← hg] at e; omega
  refine ⟨h.dX, h.dq.set j g hg9, by rw [List.length_set]; exact h.hq, h.lX, ?_, ?_, hrem⟩
  · intro i hi; rw [getD_set_ne _ _ _ _ (by omega)]; exact h.zero i (by omega)
  · have e2 := drop_set_same q j g
    have e3 : (q.set j g).getD j 0 = g := by simp [List.getD_eq_getElem?_getD, h0]
    rw [h.eq, val_drop (q.set j g) j (by rw [List.length_set]; exact h0), e2, e3, val_take_succ X j (by rw [h.lX]; exact hj)]
    have e5 : 1000000000 ^ j * P = 1000000000 ^ j * (V * g) + 1000000000 ^ j * (P - V * g) := by rw [← Nat.mul_add, Nat.add_sub_cancel' hle]
    have e6 : V * (1000000000 ^ j * (g + 1000000000 * val (q.drop (j + 1)))) = 1000000000 ^ j * (V * g) + V * (1000000000 ^ (j + 1) * val (q.drop (j + 1))) := by
      rw [Nat.mul_add, Nat.mul_add, Nat.mul_left_comm V, Nat.pow_succ, Nat.mul_assoc (1000000000 ^ j)]
    have e7 : 1000000000 ^ j * P = 1000000000 ^ j * X.getD j 0 + 1000000000 ^ (j + 1) * R := by
      rw [← hP, Nat.mul_add, Nat.pow_succ, Nat.mul_assoc (1000000000 ^ j)]
    omega
theorem RInv.done {N V lq R : Nat} {X q : List Nat} (h : RInv N V lq X R q 0) : val q = N / V ∧ R = N % V := by
  have e := h.eq
  rw [List.drop_zero, Nat.pow_zero, Nat.one_mul, Nat.one_mul] at e
  simp only [List.take_zero, val, Nat.add_zero] at e
  exact short_div e h.lt
end Go.Nat9

/- The program logic: nil tests, append of immutable data, cuts of views; what functions on limbs return. -/
namespace Go.Fw
open Go Go.RowKit Go.Nat9

section
variable {P : Program} {Q : Exit → Act → World → Prop} {w0 : Ctx} {σ σ' : List Res} {φ φ' : List (Bool × VP)} {fr : Fr} {ops : Array Oper} {rest : List Oper}
  {d : Nat} {ty : TypeId} {pos : String} {aft : Array Edge}
theorem JL_eqlNil {t t' e : TypeId} {sz by' : Nat} {z : List Value} {x y : Operand} {ad : Option Addr} {n c : Nat} (hs : slOf P t = some (e, sz, by', z)) (hx : Ev fr x (.slice ad n c)) (hy : Ev fr y (.slice none 0 0))
    (k : JL P ops Q w0 σ φ rest (upd fr d (.bool ad.isNone))) : JL P ops Q w0 σ φ (⟨some d, .binOp .eql t x y t', ty, pos, aft, none⟩ :: rest) fr := by
  obtain ⟨i, zv, hu, _⟩ := slOf_spec hs
  exact JL_pure _ (fun w => by simp only [execOp, hx.eq, hy.eq, eqGuard_at_slice, Sem.run_bind, Sem.run_pure, run_eql_slice_nil w t e ad n c hu, Result.andThen_ok]) k
end

theorem JL_normQ {P : Program} {w0 : Ctx} {σ : List Res} {φ : List (Bool × VP)} {fr : Fr} {ops : Array Oper} {d : Nat} {F : Value → VP} {l : List Oper} (fr' : Fr) (φ' : List (Bool × VP)) (h1 : fr' = fr) (h3 : φ' = φ)
    (h : JL P ops (StepQ w0 σ φ' fr' d F) w0 σ φ' l fr') : JL P ops (StepQ w0 σ φ fr d F) w0 σ φ l fr := by
  subst h1 h3; exact h

section
variable {P : Program} {Q : Exit → Act → World → Prop} {w0 : Ctx} {σ σ' : List Res} {φ φ' : List (Bool × VP)} {fr : Fr} {ops : Array Oper} {rest : List Oper}
  {d : Nat} {ty : TypeId} {pos : String} {aft : Array Edge}
theorem Nth_last {α : Type} : ∀ (l : List α) (a : α), Nth (l ++ [a]) l.length a
  | [], _ => rfl
  | _ :: l, a => Nth_last l a
theorem JL_giveLast {l : List Oper} {ad : Option Addr} {n cap sz : Nat} {E : TypeId} {xs : List Value} (k : JL P ops Q w0 σ ((true, vCells ad xs) :: φ) l fr) : JL P ops Q w0 (σ ++ [osl ad n cap E sz xs]) φ l fr := by
  refine JL_give σ.length (Nth_last σ _) ?_
  rw [List.eraseIdx_append_of_length_le (Nat.le_refl _), Nat.sub_self]
  simpa using k
end

/-! ## What functions on limbs return, and what they are given -/
/-- a slice of the canonical limbs of x -/
def LS (x : Nat) (v : Value) (φo : List VP) : Prop := ∃ (ad : Option Addr) (cap : Nat), v = .slice ad (limbsOf x).length cap ∧ (limbsOf x).length ≤ cap ∧ cap ≤ 9223372036854775807 ∧ φo = [vCells ad (u32s (limbsOf x))]
/-- n limbs L of the value x, at most K of them -/
structure NIn (n : Nat) (L : List Nat) (x K : Nat) : Prop where
  len : L.length = n
  u32 : U32 L
  val : val L = x
  le : n ≤ K
theorem U32.limbsOf (x : Nat) : U32 (limbsOf x) := U32.ofDig (dig_limbsOf x)
theorem U32.snoc {L : List Nat} (h : U32 L) {a : Nat} (ha : a < 4294967296) : U32 (L ++ [a]) := fun b hb => by
  rcases List.mem_append.1 hb with hb | hb
  · exact h b hb
  · rw [List.mem_singleton.1 hb]; exact ha
theorem NIn.of {x K : Nat} (h : (limbsOf x).length ≤ K) : NIn (limbsOf x).length (limbsOf x) x K := ⟨rfl, U32.limbsOf x, val_limbsOf x, h⟩
theorem NIn.nil {K : Nat} : NIn 0 [] 0 K := ⟨rfl, fun _ h => (List.not_mem_nil h).elim, rfl, Nat.zero_le _⟩
theorem NIn.mono {n : Nat} {L : List Nat} {x K K' : Nat} (h : NIn n L x K) (hk : K ≤ K') : NIn n L x K' := ⟨h.len, h.u32, h.val, Nat.le_trans h.le hk⟩
theorem NIn.sz {n : Nat} {L : List Nat} {x K : Nat} (h : NIn n L x K) : (limbsOf x).length ≤ n + 1 := by
  rw [← h.val, ← h.len]; exact len_limbsOf_val h.u32
theorem NIn.getD {n : Nat} {L : List Nat} {x K : Nat} (h : NIn n L x K) (k : Nat) : L.getD k 0 < 4294967296 := h.u32.getD k
/-- n digits L of the value x -/
structure DIn (n : Nat) (L : List Nat) (x : Nat) : Prop where
  len : L.length = n
  dig : Dig L
  val : Nat9.val L = x
theorem DIn.of {x : Nat} : DIn (Nat9.limbsOf x).length (Nat9.limbsOf x) x := ⟨rfl, dig_limbsOf x, val_limbsOf x⟩
theorem val_one (d : Nat) : Nat9.val [d] = d := by simp [Nat9.val]
theorem DIn.one {d : Nat} (h : d < 1000000000) : DIn 1 [d] d := ⟨rfl, Dig.cons h Dig.nil, val_one d⟩
theorem LS.nil : LS 0 (.slice none 0 0) [vCells none (u32s [])] := ⟨none, 0, by rw [limbsOf_zero]; rfl, by rw [limbsOf_zero]; exact Nat.le_refl _, by omega, by rw [limbsOf_zero]⟩
/-! Short names for the printed walks. -/
theorem mm0 {α : Type} {a : α} {l : List α} : a ∈ a :: l := List.mem_cons_self
theorem mmS {α : Type} {a b : α} {l : List α} (h : a ∈ l) : a ∈ b :: l := List.mem_cons_of_mem _ h
theorem ss0 {α : Type} {l : List α} : ∀ p ∈ l, p ∈ l := subset_refl
theorem ssS {α : Type} {a : α} {b l : List α} (h : ∀ p ∈ b, p ∈ l) : ∀ p ∈ b, p ∈ a :: l := subset_tail h
section
variable {P : Program} {w0 : Ctx} {σ : List Res} {φ : List (Bool × VP)} {fr : Fr} {ops : Array Oper}
theorem vz {σx : List Res} {φx : List (Bool × VP)} {frv : Fr} {d : Nat} {V : Value} (h : fr = upd frv d V) : JL P ops (StepQ w0 σx φx frv d (fun v => vPure (v = V))) w0 σx φx [] fr := JL_nil (JE_stepV h ss0)
variable {l : List Oper} {n : Nat} {b : List Value} {ss : List Sp} {d : Nat} {preds : List Nat} {ty : TypeId} {pos : String} {aft : Array Edge}
theorem oNo {op : Op} {j t : Nat} {want : Bool} (hj : (l.toArray[j]?).bind (·.dst) = some t) (hb : ∀ vals, Lk ⟨n, pendsO preds vals ss 0, b⟩ t (.bool (!want))) : OblS P l w0 σ φ n b ss (spV d preds undef) ⟨some d, op, ty, pos, aft, some (j, want)⟩ :=
  OblS_V fun vals _ _ => JL_guard_no hj (hb vals) (vz rfl)
theorem oMv {x : Operand} {v : Value} (hx : ∀ vals, Ev ⟨n, pendsO preds vals ss 0, b⟩ x v) : OblS P l w0 σ φ n b ss (spV d preds v) ⟨some d, .move x, ty, pos, aft, none⟩ := OblS_V fun vals _ _ => JL_move (hx vals) (vz rfl)
theorem oMg {x : Operand} {v : Value} {j t : Nat} {want : Bool} (hj : (l.toArray[j]?).bind (·.dst) = some t) (hb : ∀ vals, Lk ⟨n, pendsO preds vals ss 0, b⟩ t (.bool want)) (hx : ∀ vals, Ev ⟨n, pendsO preds vals ss 0, b⟩ x v) : OblS P l w0 σ φ n b ss (spV d preds v) ⟨some d, .move x, ty, pos, aft, some (j, want)⟩ :=
  OblS_V fun vals _ _ => JL_guard_yes hj (hb vals) (JL_move (hx vals) (vz rfl))
end
theorem am {α : Type} {a : α} {l : List α} (h : a ∈ l := by repeat (first | with_reducible exact mm0 | refine mmS ?_)) : a ∈ l := h
theorem om {p : Prop} (h : p := by omega) : p := h
theorem kr {p : Prop} (h : p := by kernel_rfl) : p := h
theorem i6o {n : Int} (h : -9223372036854775808 ≤ n ∧ n ≤ 9223372036854775807 := by omega) : IntKind.i64.wrap n = n := IntWalk.i64_in n h
theorem zp {n : Nat} : 0 < n + 1 := Nat.zero_lt_succ n
theorem bleq {a b : Nat} (h : Nat.ble a b = true := by exact rfl) : a ≤ b := Nat.le_of_ble_eq_true h
theorem rdg {w0 : Ctx} {σ : List Res} {φ : List (Bool × VP)} {ad : Option Addr} {xs : List Value} (h : Reads w0 σ φ ad xs := by first | exact Reads.view am | exact Reads.own 0 rfl | exact Reads.own 1 rfl | exact Reads.own 2 rfl | exact Reads.own 3 rfl) : Reads w0 σ φ ad xs := h
theorem lno {p : Prop} (h : p := by first | (rw [u32s_length]; omega) | (rw [i64s_length]; omega)) : p := h
theorem ao1 {u : Value} (h : u.oneCell' = true := by exact rfl) : AllOne [u] := AllOne.cons h AllOne.nil
theorem ao3 {u v w : Value} (h : u.oneCell' = true := by exact rfl) (h2 : v.oneCell' = true := by exact rfl) (h3 : w.oneCell' = true := by exact rfl) : AllOne [u, v, w] := AllOne.cons h (AllOne.cons h2 (ao1 h3))
section
variable {P : Program} {Q : Exit → Act → World → Prop} {w0 : Ctx} {σ σ' : List Res} {φ φ' : List (Bool × VP)} {fr : Fr} {ops : Array Oper}
/-- What a list of changes says at no place, at places of no interest; slots not written yet. -/
abbrev rn {α : Type} : Nat → List (Option α) → List (Option α)
  | 0, l => l
  | k + 1, l => none :: rn k l
abbrev sc (u : Nat → Value) : Nat → Nat → List (Option Value) → List (Option Value)
  | _, 0, l => l
  | a, k + 1, l => some (u a) :: sc u (a + 1) k l
def rp : Nat → List Value
  | 0 => []
  | k + 1 => undef :: rp k
theorem JC_nw {c : Code} (σ' : List Res) (φ' : List (Bool × VP)) (h : JC P c Q w0 σ' φ' fr) (h2 : σ' = σ := by exact rfl) (h3 : φ' = φ := by exact rfl) : JC P c Q w0 σ φ fr := by
  subst h2 h3; exact h
theorem JC_st {c : Code} {n : Nat} {b b' : List Value} (σ' : List Res) (φ' : List (Bool × VP)) (h : JC P c Q w0 σ' φ' ⟨n, [], b'⟩) (h1 : b = b' := by simp only [rp]; rfl) (h2 : σ' = σ := by exact rfl) (h3 : φ' = φ := by exact rfl) : JC P c Q w0 σ φ ⟨n, [], b⟩ := by
  subst h1 h2 h3; exact h
theorem JL_dv {y : Code} (n : Nat) {b' : List Value} (h : JC P y Q w0 σ φ ⟨n, [], b'⟩) (hn : fr.n = n := by exact rfl) (hl : Nat.ble n fr.base.length = true := by exact rfl) (h1 : flatP fr.pend fr.base = b' := by simp only [nrmF]; rfl) :
    JL P ops (Then P y Q) w0 σ φ [] fr := JL_done_up n σ φ hn hl h1 rfl rfl h
theorem JL_nv (n : Nat) {b' : List Value} (h : JE Q .normal w0 σ φ ⟨n, [], b'⟩) (hn : fr.n = n := by exact rfl) (hl : Nat.ble n fr.base.length = true := by exact rfl) (h1 : flatP fr.pend fr.base = b' := by simp only [nrmF]; rfl) :
    JL P ops Q w0 σ φ [] fr := JL_nil_up n σ φ hn hl h1 rfl rfl h
theorem JL_du {y : Code} (n : Nat) {b' : List Value} (σ' : List Res) (φ' : List (Bool × VP)) (h : JC P y Q w0 σ' φ' ⟨n, [], b'⟩) (hn : fr.n = n := by exact rfl) (hl : Nat.ble n fr.base.length = true := by exact rfl) (h1 : flatP fr.pend fr.base = b' := by simp only [nrmF]; rfl) (h2 : σ' = σ := by exact rfl) (h3 : φ' = φ := by exact rfl) :
    JL P ops (Then P y Q) w0 σ φ [] fr := JL_done_up n σ' φ' hn hl h1 h2 h3 h
theorem JL_nu (n : Nat) {b' : List Value} (σ' : List Res) (φ' : List (Bool × VP)) (h : JE Q .normal w0 σ' φ' ⟨n, [], b'⟩) (hn : fr.n = n := by exact rfl) (hl : Nat.ble n fr.base.length = true := by exact rfl) (h1 : flatP fr.pend fr.base = b' := by simp only [nrmF]; rfl) (h2 : σ' = σ := by exact rfl) (h3 : φ' = φ := by exact rfl) :
    JL P ops Q w0 σ φ [] fr := JL_nil_up n σ' φ' hn hl h1 h2 h3 h
theorem JC_nm {c : Code} (n : Nat) {b' : List Value} (σ' : List Res) (φ' : List (Bool × VP)) (h : JC P c Q w0 σ' φ' ⟨n, [], b'⟩) (hn : fr.n = n := by exact rfl) (hp : fr.pend = [] := by exact rfl) (h1 : fr.base = b' := by simp only [mixF, mix, rn, sc]; rfl) (h2 : σ' = σ := by exact rfl) (h3 : φ' = φ := by exact rfl) : JC P c Q w0 σ φ fr := by
  obtain ⟨m, p, b⟩ := fr
  subst hn hp h1 h2 h3
  exact h
end
section
variable {P : Program} {Q : Exit → Act → World → Prop} {w0 : Ctx} {σ : List Res} {φ : List (Bool × VP)} {fr : Fr} {ops : Array Oper} {rest : List Oper} {l : List Oper} {n : Nat} {b : List Value} {ss : List Sp} {d : Nat} {preds : List Nat} {ty : TypeId} {pos : String} {aft : Array Edge}
theorem oN {op : Op} {j t : Nat} {want : Bool} (hj : (l.toArray[j]?).bind (·.dst) = some t := by exact rfl) (hb : ∀ vals, Lk ⟨n, pendsO preds vals ss 0, b⟩ t (.bool (!want)) := by exact fun _ => rfl) : OblS P l w0 σ φ n b ss (spV d preds undef) ⟨some d, op, ty, pos, aft, some (j, want)⟩ := oNo hj hb
theorem oM {x : Operand} {v : Value} (hx : ∀ vals, Ev ⟨n, pendsO preds vals ss 0, b⟩ x v := by exact fun _ => rfl) : OblS P l w0 σ φ n b ss (spV d preds v) ⟨some d, .move x, ty, pos, aft, none⟩ := oMv hx
theorem oG {x : Operand} {v : Value} {j t : Nat} {want : Bool} (hj : (l.toArray[j]?).bind (·.dst) = some t := by exact rfl) (hb : ∀ vals, Lk ⟨n, pendsO preds vals ss 0, b⟩ t (.bool want) := by exact fun _ => rfl) (hx : ∀ vals, Ev ⟨n, pendsO preds vals ss 0, b⟩ x v := by exact fun _ => rfl) : OblS P l w0 σ φ n b ss (spV d preds v) ⟨some d, .move x, ty, pos, aft, some (j, want)⟩ := oMg hj hb hx
theorem JL_gy {op : Op} {dst : Option Nat} {j t : Nat} {want : Bool} (k : JL P ops Q w0 σ φ (⟨dst, op, ty, pos, aft, none⟩ :: rest) fr) (hj : (ops[j]?).bind (·.dst) = some t := by exact rfl) (hb : Lk fr t (.bool want) := by exact rfl) : JL P ops Q w0 σ φ (⟨dst, op, ty, pos, aft, some (j, want)⟩ :: rest) fr := JL_guard_yes hj hb k
theorem JL_gn {op : Op} {j t : Nat} {want : Bool} (k : JL P ops Q w0 σ φ rest (upd fr d undef)) (hj : (ops[j]?).bind (·.dst) = some t := by exact rfl) (hb : Lk fr t (.bool (!want)) := by exact rfl) : JL P ops Q w0 σ φ (⟨some d, op, ty, pos, aft, some (j, want)⟩ :: rest) fr := JL_guard_no hj hb k
end
theorem JC_sr {P : Program} {Q : Exit → Act → World → Prop} {w0 : Ctx} {σ : List Res} {φ : List (Bool × VP)} {fr : Fr} {id : Nat} {l : List Oper} {y : Code} (h : JL P l.toArray (Then P y Q) w0 σ φ l fr) : JC P (.seq (.region id l.toArray false) y) Q w0 σ φ fr := JC_seq (JC_region h)
theorem JL_m {P : Program} {Q : Exit → Act → World → Prop} {w0 : Ctx} {σ : List Res} {φ : List (Bool × VP)} {fr : Fr} {ops : Array Oper} {rest : List Oper} {d : Nat} {ty : TypeId} {pos : String} {aft : Array Edge} {x : Operand} {v : Value} (k : JL P ops Q w0 σ φ rest (upd fr d v)) (hx : Ev fr x v := by exact rfl) : JL P ops Q w0 σ φ (⟨some d, .move x, ty, pos, aft, none⟩ :: rest) fr := JL_move hx k
theorem JL_a {P : Program} {Q : Exit → Act → World → Prop} {w0 : Ctx} {σ : List Res} {φ : List (Bool × VP)} {fr : Fr} {ops : Array Oper} {rest : List Oper} {d : Nat} {ty : TypeId} {pos : String} {aft : Array Edge} {x : Operand} {v : Value} (k : JL P ops Q w0 σ φ rest (upd fr d v)) (hx : Ev fr x v := by exact rfl) : JL P ops Q w0 σ φ (⟨some d, .assign x, ty, pos, aft, none⟩ :: rest) fr := JL_assign hx k
end Go.Fw

/- The program logic's rule for a region that draws its order and has few orders: each order is walked. -/
namespace Go.Fw
open Go Go.RowKit

section
variable {P : Program} {Q : Exit → Act → World → Prop} {w0 : Ctx} {σ : List Res} {φ : List (Bool × VP)} {fr : Fr}
/-- From here on whatever is ready is done, in any order. -/
def JA (P : Program) (l : List Oper) (Q : Exit → Act → World → Prop) (w0 : Ctx) (σ : List Res) (φ : List (Bool × VP)) (fuel : Nat) (listed : Array Bool) (fr : Fr) : Prop :=
  ∀ w, St w0 w σ φ → wpAny P .any l.toArray Q fuel listed (act fr) w
def NextA (P : Program) (l : List Oper) (Q : Exit → Act → World → Prop) (fuel : Nat) (listed : Array Bool) : Exit → Act → World → Prop
  | .normal, a, w => wpAny P .any l.toArray Q fuel listed a w
  | e, a, w => Q e a w
def AllA (P : Program) (l : List Oper) (Q : Exit → Act → World → Prop) (w0 : Ctx) (σ : List Res) (φ : List (Bool × VP)) (fuel : Nat) (listed : Array Bool) (fr : Fr) : List Nat → Prop
  | [] => True
  | i :: is => (∃ o, l[i]? = some o ∧ JL P l.toArray (NextA P l Q fuel (listed.setIfInBounds i true)) w0 σ φ [o] fr) ∧ AllA P l Q w0 σ φ fuel listed fr is
theorem AllA.mem {l : List Oper} {fuel : Nat} {listed : Array Bool} : ∀ {is : List Nat}, AllA P l Q w0 σ φ fuel listed fr is → ∀ i ∈ is, ∃ o, l[i]? = some o ∧ JL P l.toArray (NextA P l Q fuel (listed.setIfInBounds i true)) w0 σ φ [o] fr
  | _ :: _, h, i, hi => by
    rcases List.mem_cons.1 hi with rfl | hi
    · exact h.1
    · exact AllA.mem h.2 i hi
theorem JA_step {l : List Oper} {fuel : Nat} {listed : Array Bool} (is : List Nat) (hr : Region.ready .any l.toArray listed = is) (hne : is ≠ []) (h : AllA P l Q w0 σ φ fuel listed fr is) : JA P l Q w0 σ φ (fuel + 1) listed fr := by
  intro w s
  refine ⟨fun h0 => (hne (hr.symm.trans h0)).elim, fun i hi => ?_⟩
  rw [hr] at hi
  obtain ⟨o, ho, hj⟩ := h.mem i hi
  have h1 := hj w s
  unfold wpOp
  rw [List.getElem?_toArray, ho]
  simp only
  unfold wpList at h1
  split at h1
  · rename_i hw
    rw [if_pos hw]
    exact h1.imp (fun h => Oper.wp_conv (fun a w h => h) (fun _ _ _ h => h) (fun h => h) h) (fun h => ⟨h.1, h.2⟩)
  · rename_i hw
    rw [if_neg hw]
    exact h1
theorem JE_nextA {l : List Oper} {fuel : Nat} {listed : Array Bool} (h : JA P l Q w0 σ φ fuel listed fr) : JE (NextA P l Q fuel listed) .normal w0 σ φ fr := h
theorem JE_nA {l : List Oper} {fuel : Nat} {listed : Array Bool} (i : Nat) {o : Oper} (h : JL P l.toArray (NextA P l Q fuel (listed.setIfInBounds i true)) w0 σ φ [o] fr) (ho : l[i]? = some o := by exact rfl) (hr : Region.ready .any l.toArray listed = [i] := by kernel_rfl) : JE (NextA P l Q (fuel + 1) listed) .normal w0 σ φ fr :=
  JA_step [i] hr (by simp) ⟨⟨o, ho, h⟩, trivial⟩
theorem JA_end {l : List Oper} {fuel : Nat} {listed : Array Bool} (hr : Region.ready .any l.toArray listed = []) (h : JE Q .normal w0 σ φ fr) : JA P l Q w0 σ φ fuel listed fr := by
  intro w s
  cases fuel with
  | zero => exact ⟨hr, h w s⟩
  | succ f => exact ⟨fun _ => h w s, fun i hi => by rw [hr] at hi; cases hi⟩
end
end Go.Fw

/- Plain facts on fractions: the rational number of a sign and two naturals, its canonical form, its order, its size. No program here. -/
namespace Go.Nat9

def sgI (s : Bool) (x : Nat) : Int := if s then -(x : Int) else (x : Int)
theorem sgI_natAbs (s : Bool) (x : Nat) : (sgI s x).natAbs = x := by cases s <;> simp [sgI]
def mkq (s : Bool) (x y : Nat) : Rat := mkRat (sgI s x) y
theorem mkq_zl (s : Bool) (y : Nat) : mkq s 0 y = 0 := by cases s <;> simp [mkq, sgI]
theorem mkq_zr (s : Bool) (x : Nat) : mkq s x 0 = 0 := by simp [mkq]
theorem mkq_num (s : Bool) (x y : Nat) (hy : 0 < y) : (mkq s x y).num.natAbs = x / Nat.gcd x y := by
  have hd : ((Nat.gcd x y : Nat) : Int) ∣ (x : Int) := Int.natCast_dvd_natCast.2 (Nat.gcd_dvd_left _ _)
  unfold mkq
  rw [Rat.num_mkRat, if_neg (by omega), sgI_natAbs, Nat.gcd_comm]
  cases s
  · show ((x : Int) / _).natAbs = _
    rw [← Int.natCast_ediv, Int.natAbs_natCast]
  · show ((-(x : Int)) / _).natAbs = _
    rw [Int.neg_ediv_of_dvd hd, Int.natAbs_neg, ← Int.natCast_ediv, Int.natAbs_natCast]
theorem mkq_den (s : Bool) (x y : Nat) (hy : 0 < y) : (mkq s x y).den = y / Nat.gcd x y := by
  unfold mkq
  rw [Rat.den_mkRat, if_neg (by omega), sgI_natAbs, Nat.gcd_comm]
theorem mkq_self (q : Rat) : mkq (decide (q < 0)) q.num.natAbs q.den = q := by
  have h : sgI (decide (q < 0)) q.num.natAbs = q.num := by
    unfold sgI
    by_cases h : q < 0
    · have h1 : ¬ 0 ≤ q.num := by rw [Rat.num_nonneg, Rat.not_le]; exact h
      rw [if_pos (by simpa using h)]; omega
    · have h1 : 0 ≤ q.num := by rw [Rat.num_nonneg]; exact Rat.not_lt.1 h
      rw [if_neg (by simpa using h)]; omega
  unfold mkq; rw [h, Rat.mkRat_self]
theorem mkq_mul (s t : Bool) (x y u v : Nat) : mkq (s != t) (x * u) (y * v) = mkq s x y * mkq t u v := by
  unfold mkq; rw [Rat.mkRat_mul_mkRat]
  congr 1
  cases s <;> cases t <;> simp [sgI, Int.neg_mul, Int.mul_neg]
/-- The number has few limbs. -/
def qs (q : Rat) (K : Nat) : Prop := (limbsOf q.num.natAbs).length ≤ K ∧ (limbsOf q.den).length ≤ K
theorem qs.mono {q : Rat} {a b : Nat} (h : qs q a) (hab : a ≤ b) : qs q b := ⟨Nat.le_trans h.1 hab, Nat.le_trans h.2 hab⟩
theorem limbsOf_one_len : (limbsOf 1).length ≤ 1 := limbsOf_len_of_lt (by decide)
theorem qs_mkq (s : Bool) {x y K : Nat} (h1 : (limbsOf x).length ≤ K) (h2 : (limbsOf y).length ≤ K) (h3 : 1 ≤ K) : qs (mkq s x y) K := by
  rcases Nat.eq_zero_or_pos y with h0 | h0
  · subst h0; rw [mkq_zr]; exact ⟨by show (limbsOf 0).length ≤ K; rw [limbsOf_zero]; exact Nat.zero_le _, Nat.le_trans limbsOf_one_len h3⟩
  · refine ⟨?_, ?_⟩
    · rw [mkq_num s x y h0]; exact Nat.le_trans (len_limbsOf_le (Nat.div_le_self _ _)) h1
    · rw [mkq_den s x y h0]; exact Nat.le_trans (len_limbsOf_le (Nat.div_le_self _ _)) h2
theorem limbsOf_den_pos (q : Rat) : 1 ≤ (limbsOf q.den).length := limbsOf_len_pos (Nat.pos_of_ne_zero q.den_nz)
theorem qs.one {q : Rat} {K : Nat} (h : qs q K) : 1 ≤ K := Nat.le_trans (limbsOf_den_pos q) h.2
theorem qs.mul {p q : Rat} {a b c : Nat} (hp : qs p a) (hq : qs q b) (h : a + b ≤ c) : qs (p * q) c := by
  have := hp.one
  rw [← mkq_self p, ← mkq_self q, ← mkq_mul]
  refine qs_mkq _ (Nat.le_trans (len_limbsOf_mul _ _) ?_) (Nat.le_trans (len_limbsOf_mul _ _) ?_) (by omega)
  · have := hp.1; have := hq.1; omega
  · have := hp.2; have := hq.2; omega
theorem mkRat_mkq (n : Int) (d : Nat) : mkRat n d = mkq (decide (n < 0)) n.natAbs d := by
  unfold mkq sgI
  by_cases h : n < 0
  · rw [if_pos (by simpa using h)]; congr 1; omega
  · rw [if_neg (by simpa using h)]; congr 1; omega
theorem qs.add {p q : Rat} {a b c : Nat} (hp : qs p a) (hq : qs q b) (h : a + b + 1 ≤ c) : qs (p + q) c := by
  have hp1 := hp.1; have hp2 := hp.2; have hq1 := hq.1; have hq2 := hq.2
  rw [Rat.add_def', mkRat_mkq]
  refine qs_mkq _ (Nat.le_trans (len_limbsOf_le (m := p.num.natAbs * q.den + q.num.natAbs * p.den) ?_) ?_) (Nat.le_trans (len_limbsOf_mul _ _) (by omega)) (by omega)
  · refine Nat.le_trans (Int.natAbs_add_le _ _) ?_
    rw [Int.natAbs_mul, Int.natAbs_mul, Int.natAbs_natCast, Int.natAbs_natCast]; exact Nat.le_refl _
  · refine Nat.le_trans (len_limbsOf_add _ _) ?_
    have e1 := len_limbsOf_mul p.num.natAbs q.den
    have e2 := len_limbsOf_mul q.num.natAbs p.den
    omega
theorem qs.neg {q : Rat} {K : Nat} (h : qs q K) : qs (-q) K := by
  refine ⟨?_, h.2⟩
  rw [Rat.neg_num, Int.natAbs_neg]; exact h.1
theorem qs.sub {p q : Rat} {a b c : Nat} (hp : qs p a) (hq : qs q b) (h : a + b + 1 ≤ c) : qs (p - q) c := by rw [Rat.sub_eq_add_neg]; exact hp.add hq.neg h
/-- The parts of the canonical form of a number; of the zero value of the type, for none. -/
def fneg : Option Rat → Bool | none => false | some q => decide (q < 0)
def fnum : Option Rat → List Nat | none => [] | some q => limbsOf q.num.natAbs
def fden : Option Rat → List Nat | none => [] | some q => limbsOf q.den
def fval : Option Rat → Rat | none => 0 | some q => q
end Go.Nat9

/- What functions on fractions and spans return, and what they are given. -/
namespace Go.Fw
open Go Go.RowKit Go.Nat9

/-- a span -/
def SO (o p : Option Rat) (v : Value) (φo : List VP) : Prop := ∃ (ad : Option Addr) (c : Nat) (be : Option Addr) (e : Nat) (ad' : Option Addr) (c' : Nat) (be' : Option Addr) (e' : Nat),
  v = .agg #[.bool (fneg o), .slice ad (fnum o).length c, .slice be (fden o).length e, .bool (fneg p), .slice ad' (fnum p).length c', .slice be' (fden p).length e'] ∧
  φo = [vCells ad (u32s (fnum o)), vCells be (u32s (fden o)), vCells ad' (u32s (fnum p)), vCells be' (u32s (fden p))]
/-- a sign and limbs of the number q, at most K limbs each -/
structure FIn (s : Bool) (n : Nat) (L : List Nat) (m : Nat) (M : List Nat) (q : Rat) (K : Nat) : Prop where
  num : NIn n L (val L) K
  den : NIn m M (val M) K
  eq : mkq s (val L) (val M) = q
theorem FIn.of {o : Option Rat} {K : Nat} (h : qs (fval o) K) : FIn (fneg o) (fnum o).length (fnum o) (fden o).length (fden o) (fval o) K := by
  cases o with
  | none => exact ⟨⟨rfl, fun _ h => (List.not_mem_nil h).elim, rfl, Nat.zero_le _⟩, ⟨rfl, fun _ h => (List.not_mem_nil h).elim, rfl, Nat.zero_le _⟩, mkq_zl _ _⟩
  | some q =>
    refine ⟨⟨rfl, U32.limbsOf _, rfl, h.1⟩, ⟨rfl, U32.limbsOf _, rfl, h.2⟩, ?_⟩
    show mkq (decide (q < 0)) (val (limbsOf _)) (val (limbsOf _)) = q
    rw [val_limbsOf, val_limbsOf, mkq_self]
theorem FIn.some {q : Rat} {K : Nat} (h : qs q K) : FIn (fneg (some q)) (fnum (some q)).length (fnum (some q)) (fden (some q)).length (fden (some q)) q K := FIn.of (o := Option.some q) h
theorem FIn.none {K : Nat} : FIn false 0 [] 0 [] 0 K := ⟨⟨rfl, fun _ h => (List.not_mem_nil h).elim, rfl, Nat.zero_le _⟩, ⟨rfl, fun _ h => (List.not_mem_nil h).elim, rfl, Nat.zero_le _⟩, mkq_zl _ _⟩
theorem FIn.mono {s : Bool} {n m K K' : Nat} {L M : List Nat} {q : Rat} (g : FIn s n L m M q K) (h : K ≤ K') : FIn s n L m M q K' := ⟨g.num.mono h, g.den.mono h, g.eq⟩
theorem FIn.qs {s : Bool} {n m K : Nat} {L M : List Nat} {q : Rat} (g : FIn s n L m M q K) : qs q (K + 1) := by
  rw [← g.eq]
  have h1 := g.num.sz; have h2 := g.num.le; have h3 := g.den.sz; have h4 := g.den.le
  exact qs_mkq _ (by omega) (by omega) (by omega)
theorem NIn.num {q : Rat} {K : Nat} (h : Nat9.qs q K) : NIn (fnum (Option.some q)).length (fnum (Option.some q)) q.num.natAbs K := NIn.of h.1
theorem NIn.den {q : Rat} {K : Nat} (h : Nat9.qs q K) : NIn (fden (Option.some q)).length (fden (Option.some q)) q.den K := NIn.of h.2
end Go.Fw

/- Spans of fractions as plain numbers: what the functions of issue and of its reference compute. No program here. -/
namespace Go.Nat9

def vld (p q : Rat) : Bool := decide (0 ≤ p) && decide (p ≤ q)
def v2 (p1 p2 p3 p4 : Rat) : Bool := vld p1 p2 && vld p3 p4
end Go.Nat9

/-! Sizes of what laws compare. No program here. -/
namespace Go.Nat9
end Go.Nat9

/- The program logic: fields of elements; spans as cells. -/
namespace Go.Fw
open Go Go.RowKit Go.Nat9

section
variable {P : Program} {Q : Exit → Act → World → Prop} {w0 : Ctx} {σ σ' : List Res} {φ φ' : List (Bool × VP)} {fr : Fr} {ops : Array Oper} {rest : List Oper}
  {d : Nat} {ty : TypeId} {pos : String} {aft : Array Edge}
theorem JL_fieldAddrE {s : TypeId} {x : Operand} {f j off : Nat} {ad : Option Addr} {xs : List Value} (hf : fOf P s f = some off) (hx : Ev fr x (ptrAt ad j)) (hr : Reads w0 σ φ ad xs) (hlt : j < xs.length)
    (k : JL P ops Q w0 σ φ rest (upd fr d (ptrAt ad (j + off)))) : JL P ops Q w0 σ φ (⟨some d, .fieldAddr s x f, ty, pos, aft, none⟩ :: rest) fr := by
  refine JL_pureSt _ (fun w st => ?_) k
  obtain ⟨X, hc⟩ := hr w st
  obtain ⟨b, o, rfl, _, _⟩ := hc j _ (List.getElem?_eq_getElem hlt)
  unfold fOf at hf
  split at hf
  · rename_i fields hu
    split at hf
    · rename_i fd hfd
      split at hf
      · rename_i i hi
        split at hf
        · cases hf
        · rename_i hne
          simp at hf
          subst hf
          simp [execOp, hx.eq, Instr.fieldAt, run_underlying hu, hfd, Instr.sureAddr, fieldPlace, sizeOf, typeInfo, hi, hne, ptrAt, add_lit', Nat.add_assoc]
      · cases hf
    · cases hf
  · cases hf
end

/-- A span's cells. -/
structure SpV where
  s : Bool
  a : Option Addr
  n : Nat
  c : Nat
  b : Option Addr
  m : Nat
  e : Nat
  s' : Bool
  a' : Option Addr
  n' : Nat
  c' : Nat
  b' : Option Addr
  m' : Nat
  e' : Nat
def SpV.cells (x : SpV) : List Value := [.bool x.s, .slice x.a x.n x.c, .slice x.b x.m x.e, .bool x.s', .slice x.a' x.n' x.c', .slice x.b' x.m' x.e']
def SpV.nil : SpV := ⟨false, none, 0, 0, none, 0, 0, false, none, 0, 0, none, 0, 0⟩
def SpV.ok (x : SpV) : Prop := x.n ≤ 4 ∧ x.m ≤ 4 ∧ x.n' ≤ 4 ∧ x.m' ≤ 4
end Go.Fw

/-! The program logic: strings; a state that begins anew. -/
namespace Go.Fw
open Go Go.RowKit Go.Nat9

section
variable {P : Program} {Q : Exit → Act → World → Prop} {w0 : Ctx} {σ σ' : List Res} {φ φ' : List (Bool × VP)} {fr : Fr} {ops : Array Oper} {rest : List Oper}
  {d : Nat} {ty : TypeId} {pos : String} {aft : Array Edge}
theorem JL_eqlS {t t' : TypeId} {x y : Operand} {a b : ByteArray} (hx : Ev fr x (.string a)) (hy : Ev fr y (.string b)) (n : JL P ops Q w0 σ φ rest (upd fr d (.bool (a.toList == b.toList)))) : JL P ops Q w0 σ φ (⟨some d, .binOp .eql t x y t', ty, pos, aft, none⟩ :: rest) fr :=
  JL_pure _ (fun w => by
    simp only [execOp, hx.eq, hy.eq, eqGuard_at_string, binOp_string_eql, Sem.run_bind, Sem.run_pure, Result.andThen_ok]) n
theorem JL_addS {t t' : TypeId} {x y : Operand} {a b : ByteArray} (hx : Ev fr x (.string a)) (hy : Ev fr y (.string b)) (hlen : a.size + b.size ≤ 9223372036854775807) (n : JL P ops Q w0 σ φ rest (upd fr d (.string (a ++ b)))) : JL P ops Q w0 σ φ (⟨some d, .binOp .add t x y t', ty, pos, aft, none⟩ :: rest) fr :=
  JL_pure _ (fun w => by
    simp only [execOp, hx.eq, hy.eq, eqGuard_at_string, binOp_string_add, run_string_add_sum (P := P) (w := w) a b hlen, Sem.run_bind, Sem.run_pure, Result.andThen_ok]) n
end
end Go.Fw

/-! The program logic: elements of arrays; contracts whose answer is known. -/
namespace Go.Fw
open Go Go.RowKit Go.Nat9

section
variable {P : Program} {Q : Exit → Act → World → Prop} {w0 : Ctx} {σ σ' : List Res} {φ φ' : List (Bool × VP)} {fr : Fr} {ops : Array Oper} {rest : List Oper}
  {d : Nat} {ty : TypeId} {pos : String} {aft : Array Edge}
theorem JL_guard_un {op : Op} {j t : Nat} {want : Bool} (hj : (ops[j]?).bind (·.dst) = some t) (hb : Lk fr t undef)
    (k : JL P ops Q w0 σ φ rest (upd fr d undef)) : JL P ops Q w0 σ φ (⟨some d, op, ty, pos, aft, some (j, want)⟩ :: rest) fr := by
  intro w s
  have h := k w s
  have hw : Region.wanted (⟨some d, op, ty, pos, aft, some (j, want)⟩ : Oper) (yielded ops (act fr).tmps) = false := by
    have hl := look_getD fr t
    rw [hb.eq] at hl
    simp only [Region.wanted, yielded, hj, Option.bind_some]
    rw [Array.getD_eq_getD_getElem?] at hl
    cases h1 : (act fr).tmps[t]? with
    | none => cases want <;> rfl
    | some u => 
      rw [h1] at hl
      obtain rfl : u = undef := hl
      cases want <;> rfl
  unfold wpList
  rw [if_neg (by rw [hw]; simp)]
  rw [act_put]
  exact h
end
end Go.Fw

/- A region that draws its order, in which one operation of the prefix may come after the first store. -/
namespace Go.Fw
open Go Go.RowKit

section
variable {P : Program} {Q : Exit → Act → World → Prop} {w0 : Ctx} {σ : List Res} {φ : List (Bool × VP)} {fr : Fr} {ops : Array Oper} {rest : List Oper}
structure LateOk (l : List Oper) (np e : Nat) (ds : List (Nat × List Nat)) : Prop where
  len : ds.length = np
  lt : np < l.length
  elt : e < np
  early : ∀ i, i < l.length → ∀ j ∈ directs l i, j < i
  step : ∀ i d ps, ds[i]? = some (d, ps) → ∃ o, l[i]? = some o ∧ o.dst = some d ∧ (∀ T, o.op = .alloc T → o.guard = none) ∧ ∀ j ∈ ps, j ∈ directs l i
  nodup : (ds.map (·.1)).Nodup
  late : ∀ i, i < np → i ≠ e → i ∈ reach l np np
  tail : ∀ t, np < t → t < l.length → ∀ i, i < t → i ∈ reach l t t
theorem Pre.step1' {l : List Oper} {n : Nat} {b : List Value} {ss : List Stp} {listed : Array Bool} {vals : Nat → Value} {bs : Nat → Nat} {a : Act} {w : World} (hokS : ∀ i d ps, (ss.map fun s => (s.d, s.preds))[i]? = some (d, ps) → ∃ o, l[i]? = some o ∧ o.dst = some d ∧ (∀ T, o.op = .alloc T → o.guard = none) ∧ ∀ j ∈ ps, j ∈ directs l i) (hokN : ((ss.map fun s => (s.d, s.preds)).map (·.1)).Nodup) (hokE : ∀ i, i < l.length → ∀ j ∈ directs l i, j < i)
    (hp : Pre w0 σ φ n b ss listed vals bs a w) {i : Nat} {s : Stp} {o : Oper} (hs : ss[i]? = some s) (ho : l[i]? = some o) (hsz : i < listed.size) (hun : listed.getD i true = false) (hpr : ∀ j ∈ directs l i, listed.getD j false = true) (hob' : Obl P l w0 σ φ n b ss s o) :
    ∀ {Q : Exit → Act → World → Prop}, if Region.wanted o (yielded l.toArray a.tmps) then o.wp P a w (fun a' w' => ∃ vals' bs', Pre w0 σ φ n b ss (listed.setIfInBounds i true) vals' bs' a' w') Q ∨ (o.asks P a w ∧ LetsOut Q)
      else (∃ vals' bs', Pre w0 σ φ n b ss (listed.setIfInBounds i true) vals' bs' (a.put o.dst undef) w) := by
  obtain ⟨o', ho', hdst, hgd, hps⟩ := hokS i s.d s.preds (by rw [List.getElem?_map, hs]; rfl)
  obtain rfl : o = o' := by rw [ho] at ho'; simpa using ho'
  have hunf : listed.getD i false = false := by simpa [Array.getD, hsz] using hun
  have hdi : (ss.map (·.d))[i]? = some s.d := by rw [List.getElem?_map, hs]; rfl
  have hnd : (ss.map (·.d)).Nodup := by have := hokN; rwa [List.map_map] at this
  intro Q
  have hfr := hp.fr
  subst hfr
  unfold Obl at hob'
  cases hal : s.al with
  | some p =>
    obtain ⟨T, z⟩ := p
    rw [hal] at hob'
    rw [if_pos (by simp [Region.wanted, hgd T hob'.1])]
    refine .inl (alloc_wp hob'.1 hdst hob'.2 ⟨setV vals i (.pointer (some ⟨w.heap.size, 0, none⟩)), setN bs i w.heap.size, ?_⟩)
    have hst := (hp.st.addBox T z)
    have hperm : (σ ++ exOf (listed.setIfInBounds i true) (setN bs i w.heap.size) ss 0).Perm ((σ ++ exOf listed bs ss 0) ++ [box w.heap.size T z]) := by
      rw [List.append_assoc]
      refine List.Perm.append_left _ ?_
      have := exOf_new (listed := listed) (bs := bs) (x := w.heap.size) ss 0 i s hs hal (by simpa using hsz) (by simpa using hunf)
      simpa using this
    refine ⟨act_pends_put n b _ hnd vals i s.d hdi _, hst.perm hperm, ?_, ?_⟩
    · intro j s' hj hne hl
      by_cases h : j = i
      · subst h; simp [setV, setN]
      · rw [getD_set_other _ _ _ (fun e => h e.symm)] at hl
        have := hp.made j s' hj hne hl
        simp [setV, setN, h, this]
    · intro j s' hj hn hl
      have h : j ≠ i := by rintro rfl; rw [hs] at hj; simp at hj; subst hj; rw [hal] at hn; cases hn
      rw [getD_set_other _ _ _ (fun e => h e.symm)] at hl
      have hf := hp.fact j s' hj hn hl
      rw [show setV vals i _ j = vals j from by simp [setV, h]]
      refine VP.mono _ _ _ w _ hf (by simp) (fun k hk _ => Below.heap_alloc _ _ _ hk) ?_
      intro k hk hX
      rcases hX with ⟨r, hr, hrk⟩ | hX
      · rcases List.mem_append.1 (hperm.mem_iff.1 hr) with hr | hr
        · exact .inl ⟨r, hr, hrk⟩
        · obtain rfl := List.mem_singleton.1 hr
          simp [box] at hrk
          omega
      · exact .inr hX
  | none =>
    rw [hal] at hob'
    have hst : St w0 w (σ ++ exOf listed bs ss 0) (factsOf ss vals s.preds ++ (φ ++ listedFacts listed vals ss 0)) := by
      refine ⟨hp.st.base, hp.st.own, hp.st.fresh, hp.st.dist, fun p hpm => ?_⟩
      rcases List.mem_append.1 hpm with hpm | hpm
      · obtain ⟨j, hj, rfl⟩ := mem_factsOf hpm
        have hjl := hpr j (hps j hj)
        have hji : j < i := hokE i (List.getElem?_eq_some_iff.1 ho).1 j (hps j hj)
        have hjs : j < ss.length := by have := (List.getElem?_eq_some_iff.1 hs).1; omega
        have hg : ss[j]? = some ss[j] := List.getElem?_eq_getElem hjs
        rw [getF_get hg]
        cases hal' : (ss[j]).al with
        | none => exact hp.fact j _ hg hal' hjl
        | some q => exact trivial
      · rcases List.mem_append.1 hpm with hpm | hpm
        · exact hp.st.views p hpm
        · obtain ⟨j, s', h1, h2, h3, rfl⟩ := mem_listedFacts ss 0 hpm
          simp only [Nat.zero_add] at h3 ⊢
          exact hp.fact j s' h1 h2 h3
    refine wpList_one (fun c a w h => h) (fun h => by obtain ⟨a, w, h⟩ := h; exact h) (hob' vals (exOf listed bs ss 0) (listedFacts listed vals ss 0) w hst) ?_
    rintro a' w' ⟨v, φ'', rfl, hst', hF, hsub⟩
    refine ⟨setV vals i v, bs, ?_⟩
    have hex : exOf (listed.setIfInBounds i true) bs ss 0 = exOf listed bs ss 0 := exOf_congr ss 0 fun j s' hj hne => by
      have h : j ≠ i := by rintro rfl; rw [hs] at hj; simp at hj; subst hj; exact hne hal
      rw [Nat.zero_add, getD_set_other _ _ _ (fun e => h e.symm)]
      exact ⟨rfl, fun _ => rfl⟩
    refine ⟨act_pends_put n b _ hnd vals i s.d hdi v, ?_, ?_, ?_⟩
    · rw [hex]
      exact hst'.weaken fun p hp' => hsub p (List.mem_append_right _ (List.mem_append_left _ hp'))
    · intro j s' hj hne hl
      have h : j ≠ i := by rintro rfl; rw [hs] at hj; simp at hj; subst hj; exact hne hal
      rw [getD_set_other _ _ _ (fun e => h e.symm)] at hl
      rw [show setV vals i v j = vals j from by simp [setV, h]]
      exact hp.made j s' hj hne hl
    · intro j s' hj hn hl
      rw [hex]
      by_cases h : j = i
      · subst h
        rw [hs] at hj
        simp at hj
        subst hj
        simpa [setV] using hF
      · rw [getD_set_other _ _ _ (fun e => h e.symm)] at hl
        rw [show setV vals i v j = vals j from by simp [setV, h]]
        have hm := listedFacts_mem (listed := listed) (vals := vals) ss 0 j hj hn (by simpa using hl)
        simp only [Nat.zero_add] at hm
        exact hst'.views _ (hsub _ (List.mem_append_right _ (List.mem_append_right _ hm)))
theorem exOf_made {listed : Array Bool} {bs : Nat → Nat} : ∀ (ss : List Stp) (k : Nat), (∀ j s, ss[j]? = some s → s.al ≠ none → listed.getD (k + j) false = true) → exOf listed bs ss k = madeBy bs ss k
  | [], _, _ => rfl
  | s :: ss, k, h => by
    have ih := exOf_made (listed := listed) (bs := bs) ss (k + 1) (fun j s' hj hn => by
      have := h (j + 1) s' (by simpa using hj) hn
      rwa [show k + (j + 1) = k + 1 + j from by omega] at this)
    rw [exOf, madeBy, ih]
    cases hal : s.al with
    | none => rfl
    | some p =>
      have := h 0 s rfl (by rw [hal]; simp)
      simp only [Nat.add_zero] at this
      simp [this]
/-- The store is done, the late operation is not. -/
structure MidL (P : Program) (l : List Oper) (Q : Exit → Act → World → Prop) (np e : Nat) (o : Oper) (listed : Array Bool) (a : Act) (w : World) : Prop where
  below : ∀ i, i ≤ np → i ≠ e → listed.getD i false = true
  late : listed.getD e false = false
  above : ∀ i, np < i → listed.getD i false = false
  go : wpList P l.toArray Q (o :: l.drop (np + 1)) a w

/-- The facts of the prefix, where walks use them. -/
theorem finS {ts : List Sp} {vals : Nat → Value} {bs : Nat → Nat} {n : Nat} {b : List Value} {L : List Oper} {w : World} (st : St w0 w (σ ++ madeBy bs (ts.map Sp.toStp) 0) φ)
    (ha : ∀ (j : Nat) (s : Sp), ts[j]? = some s → s.al ≠ none → vals j = .pointer (some ⟨bs j, 0, none⟩)) (hf : ∀ (j : Nat) (s : Sp), ts[j]? = some s → s.al = none → (s.F (vals j)).holds (Xof w0 (σ ++ madeBy bs (ts.map Sp.toStp) 0) true) w)
    (h : JL P ops Q w0 (σ ++ madeS bs ts 0) (allPosts vals ts 0 ++ φ) L ⟨n, pendsF vals bs ts 0, b⟩) : wpList P ops Q L (act ⟨n, pends ((ts.map Sp.toStp).map (·.d)) vals 0, b⟩) w := by
  have hv : ∀ (j : Nat) (s : Sp) (V : Value), ts[j]? = some s → s.al = none → s.pv = some V → vals j = V := by
    intro j s V hj hal hpv
    have := hf j s hj hal
    simp only [Sp.F, hpv] at this
    exact this
  have hpf : pendsF vals bs ts 0 = pends ((ts.map Sp.toStp).map (·.d)) vals 0 := pendsF_eq ts 0 (fun j s V hj hal hpv => by rw [Nat.zero_add]; exact hv j s V hj hal hpv) (fun j s q hj hal => by rw [Nat.zero_add]; exact ha j s hj (by rw [hal]; simp))
  have hpost : ∀ p ∈ allPosts vals ts 0, p.2.holds (Xof w0 (σ ++ madeBy bs (ts.map Sp.toStp) 0) p.1) w := by
    have : ∀ (us : List Sp) (k : Nat), (∀ (j : Nat) (s : Sp), us[j]? = some s → ts[k + j]? = some s) → ∀ p ∈ allPosts vals us k, p.2.holds (Xof w0 (σ ++ madeBy bs (ts.map Sp.toStp) 0) p.1) w := by
      intro us
      induction us with
      | nil => intro k _ p h; cases h
      | cons t us ih =>
        intro k hts p h
        have ih' := ih (k + 1) (fun j s hj => by rw [show k + 1 + j = k + (j + 1) from by omega]; exact hts (j + 1) s (by simpa using hj)) p
        rw [allPosts] at h
        have ht := hts 0 t rfl
        simp only [Nat.add_zero] at ht
        cases hal : t.al with
        | some q => rw [hal] at h; exact ih' h
        | none =>
          rw [hal] at h
          simp only at h
          cases hpv : t.pv with
          | some V => rw [hpv] at h; exact ih' h
          | none =>
            rw [hpv] at h
            rcases List.mem_cons.1 h with rfl | h
            · have := hf k t ht hal
              simp only [Sp.F, hpv] at this
              exact this
            · exact ih' h
    exact this ts 0 (fun j s hj => by rw [Nat.zero_add]; exact hj)
  have := h w
  rw [hpf, madeS_eq] at this
  refine this ⟨st.base, st.own, st.fresh, st.dist, fun p hp => ?_⟩
  rcases List.mem_append.1 hp with hp | hp
  · exact hpost p hp
  · exact st.views p hp
/-- The operation e of the prefix is not yet done: nothing is known of its value. -/
def lateB : List Sp → Nat → List Sp
  | [], _ => []
  | s :: l, 0 => ⟨s.d, s.preds, none, fun _ _ => True, s.al⟩ :: l
  | s :: l, e + 1 => s :: lateB l e
theorem lateB_d : ∀ (ss : List Sp) (e : Nat), ((lateB ss e).map Sp.toStp).map (·.d) = (ss.map Sp.toStp).map (·.d)
  | [], _ => rfl
  | _ :: _, 0 => rfl
  | s :: l, e + 1 => by rw [lateB, List.map_cons, List.map_cons, lateB_d l e]; rfl
theorem lateB_made (bs : Nat → Nat) : ∀ (ss : List Sp) (e k : Nat), madeBy bs ((lateB ss e).map Sp.toStp) k = madeBy bs (ss.map Sp.toStp) k
  | [], _, _ => rfl
  | _ :: _, 0, _ => rfl
  | s :: l, e + 1, k => by
    rw [lateB, List.map_cons, List.map_cons, madeBy, madeBy, lateB_made bs l e (k + 1)]
theorem lateB_get : ∀ (ss : List Sp) (e j : Nat) (s : Sp), (lateB ss e)[j]? = some s → (j ≠ e ∧ ss[j]? = some s) ∨ (j = e ∧ s.pv = none ∧ s.post = (fun _ _ => True) ∧ ∃ s', ss[j]? = some s' ∧ s'.al = s.al)
  | [], _, _, _, h => by simp [lateB] at h
  | t :: l, 0, 0, s, h => by
    simp only [lateB, List.getElem?_cons_zero, Option.some.injEq] at h
    subst h
    exact .inr ⟨rfl, rfl, rfl, t, rfl, rfl⟩
  | t :: l, 0, j + 1, s, h => by
    simp only [lateB, List.getElem?_cons_succ] at h
    exact .inl ⟨by omega, by simpa using h⟩
  | t :: l, e + 1, 0, s, h => by
    simp only [lateB, List.getElem?_cons_zero, Option.some.injEq] at h
    subst h
    exact .inl ⟨by omega, rfl⟩
  | t :: l, e + 1, j + 1, s, h => by
    simp only [lateB, List.getElem?_cons_succ] at h
    rcases lateB_get l e j s h with ⟨h1, h2⟩ | ⟨h1, h2, h3, s', h4, h5⟩
    · exact .inl ⟨by omega, by simpa using h2⟩
    · exact .inr ⟨by omega, h2, h3, s', by simpa using h4, h5⟩
/-! ## Several late operations: behind the store each order is walked -/
def lateBs (ss : List Sp) : List Nat → List Sp
  | [] => ss
  | e :: es => lateB (lateBs ss es) e
theorem lateBs_d (ss : List Sp) : ∀ es, ((lateBs ss es).map Sp.toStp).map (·.d) = (ss.map Sp.toStp).map (·.d)
  | [] => rfl
  | e :: es => by rw [lateBs, lateB_d, lateBs_d ss es]
theorem lateBs_made (bs : Nat → Nat) (ss : List Sp) (k : Nat) : ∀ es, madeBy bs ((lateBs ss es).map Sp.toStp) k = madeBy bs (ss.map Sp.toStp) k
  | [] => rfl
  | e :: es => by rw [lateBs, lateB_made, lateBs_made bs ss k es]
theorem lateBs_get (ss : List Sp) : ∀ (es : List Nat) (j : Nat) (s : Sp), (lateBs ss es)[j]? = some s → (j ∉ es ∧ ss[j]? = some s) ∨ (j ∈ es ∧ s.pv = none ∧ s.post = (fun _ _ => True) ∧ ∃ s', ss[j]? = some s' ∧ s'.al = s.al)
  | [], j, s, h => .inl ⟨by simp, h⟩
  | e :: es, j, s, h => by
    rw [lateBs] at h
    rcases lateB_get _ e j s h with ⟨h1, h2⟩ | ⟨h1, h2, h3, s', h4, h5⟩
    · rcases lateBs_get ss es j s h2 with ⟨a1, a2⟩ | ⟨a1, a2, a3, a4⟩
      · exact .inl ⟨by simp [h1, a1], a2⟩
      · exact .inr ⟨by simp [a1], a2, a3, a4⟩
    · rcases lateBs_get ss es j s' h4 with ⟨a1, a2⟩ | ⟨a1, a2, a3, s'', a4, a5⟩
      · exact .inr ⟨by simp [h1], h2, h3, s', a2, h5⟩
      · exact .inr ⟨by simp [h1], h2, h3, s'', a4, a5.trans h5⟩
def listedOf (N np : Nat) (miss : List Nat) : Array Bool := ((List.range N).map fun i => i ≤ np && !miss.contains i).toArray
def subl : List Nat → List (List Nat)
  | [] => [[]]
  | a :: l => (subl l).map (a :: ·) ++ subl l
theorem mem_subl (p : Nat → Bool) : ∀ l : List Nat, l.filter p ∈ subl l
  | [] => by simp [subl]
  | a :: l => by
    have ih := mem_subl p l
    rw [List.filter_cons, subl]
    cases p a with
    | true => exact List.mem_append_left _ (List.mem_map.2 ⟨_, ih, rfl⟩)
    | false => exact List.mem_append_right _ ih
def closedM (l : List Oper) (late m : List Nat) : Bool := late.all fun j => m.contains j || (directs l j).all fun i => !m.contains i
theorem wpAny_inv2 {P : Program} {md : Region.Mode} {ops : Array Oper} {Q : Exit → Act → World → Prop} (Inv : Array Bool → Act → World → Prop)
    (hstep : ∀ listed a w i, Inv listed a w → i ∈ Region.ready md ops listed → ∀ fuel, unl (listed.setIfInBounds i true) ≤ fuel → wpOp P ops Q i (fun a' w' => Inv (listed.setIfInBounds i true) a' w' ∨ wpAny P md ops Q fuel (listed.setIfInBounds i true) a' w') a w)
    (hend : ∀ listed a w, Inv listed a w → Region.ready md ops listed = [] → Q .normal a w) :
    ∀ (fuel : Nat) (listed : Array Bool) (a : Act) (w : World), listed.size = ops.size → unl listed ≤ fuel → Inv listed a w → wpAny P md ops Q fuel listed a w := by
  intro fuel
  induction fuel with
  | zero =>
    intro listed a w hs hu hI
    have hr : Region.ready md ops listed = [] := by
      cases hr : Region.ready md ops listed with
      | nil => rfl
      | cons i l =>
        have hm := mem_ready (md := md) (ops := ops) (listed := listed) (i := i) (by rw [hr]; exact List.mem_cons_self)
        have := unl_set hm.2.1
        omega
    exact ⟨hr, hend listed a w hI hr⟩
  | succ fuel ih =>
    intro listed a w hs hu hI
    refine ⟨fun hr => hend listed a w hI hr, fun i hi => ?_⟩
    have hm := mem_ready hi
    have hun := unl_set hm.2.1
    exact wpOp_mono (fun a' w' hI' => hI'.elim (ih _ a' w' (by simpa using hs) (by omega)) id) (hstep listed a w i hI hi fuel (by omega))
def AllX (P : Program) (l : List Oper) (Q : Exit → Act → World → Prop) (w0 : Ctx) (σ : List Res) (φ : List (Bool × VP)) (n np : Nat) (b : List Value) (ss : List Sp) (os : Oper) : List (List Nat × Nat) → Prop
  | [] => True
  | (m, rem) :: subs => (∀ vals bs r, JL P l.toArray (NextA P l Q (r + rem) (listedOf l.length np m)) w0 (σ ++ madeS bs (lateBs ss m) 0) (allPosts vals (lateBs ss m) 0 ++ φ) [os] ⟨n, pendsF vals bs (lateBs ss m) 0, b⟩) ∧ AllX P l Q w0 σ φ n np b ss os subs
theorem AllX.mem {l : List Oper} {n np : Nat} {b : List Value} {ss : List Sp} {os : Oper} {m : List Nat} {rem : Nat} : ∀ {subs : List (List Nat × Nat)}, AllX P l Q w0 σ φ n np b ss os subs → (m, rem) ∈ subs →
    ∀ vals bs r, JL P l.toArray (NextA P l Q (r + rem) (listedOf l.length np m)) w0 (σ ++ madeS bs (lateBs ss m) 0) (allPosts vals (lateBs ss m) 0 ++ φ) [os] ⟨n, pendsF vals bs (lateBs ss m) 0, b⟩
  | [], _, h => by cases h
  | (m', rem') :: subs, ha, h => by
    rcases List.mem_cons.1 h with h | h
    · cases h; exact ha.1
    · exact AllX.mem ha.2 h
end
end Go.Fw

/- More rules: numbers behind own numbers; parts of viewed numbers. -/
namespace Go.Fw
open Go Go.RowKit Go.Nat9

section
variable {P : Program} {Q : Exit → Act → World → Prop} {w0 : Ctx} {σ : List Res} {φ : List (Bool × VP)} {fr : Fr} {ops : Array Oper} {rest : List Oper} {d : Nat} {ty : TypeId} {pos : String} {aft : Array Edge}
theorem i64s_append (L M : List Int) : i64s L ++ i64s M = i64s (L ++ M) := by unfold i64s; rw [List.map_append]
/-- Numbers behind own numbers. -/
theorem JL_appendIV {t e : TypeId} {by' : Nat} {z : Value} {x y : Operand} {ad ad2 : Option Addr} {n cap m c : Nat} {L M : List Int} (i : Nat) (hs : slOf P t = some (e, 1, by', [z]))
    (hx : Ev fr x (.slice ad n cap)) (hy : Ev fr y (.slice ad2 m c)) (hσ : Nth σ i (osl ad n cap e 1 (i64s L))) (hr : Reads w0 σ φ ad2 (i64s M)) (hl : M.length = m)
    (h63 : n + m ≤ 9223372036854775807) (hbytes : (n + m) * by' ≤ 140737488355328)
    (k : ∀ ad' cap', n + m ≤ cap' ∧ cap' ≤ 9223372036854775807 → JL P ops Q w0 (updL σ i (osl ad' (n + m) cap' e 1 (i64s (L ++ M)))) φ rest (upd fr d (.slice ad' (n + m) cap'))) :
    JL P ops Q w0 σ φ (⟨some d, .call { callee := .builtin .append, args := #[x, y], argTypes := #[t, t] }, ty, pos, aft, none⟩ :: rest) fr := by
  refine JL_append i hs rfl (by decide) hx hy hσ (by rw [i64s_length, hl, Nat.mul_one]) hr ?_ h63 hbytes ?_
  · intro v hv
    obtain ⟨a, _, rfl⟩ := List.mem_map.1 hv
    rfl
  · intro ad' cap' hc
    rw [i64s_append]
    exact k ad' cap' hc
end
end Go.Fw
