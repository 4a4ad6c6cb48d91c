/- The program logic's rules for struct and slice literals, and slices of limbs as one thing. -/
import Derived.Test.YtgfldmhpindbpaaDoorFwH
import Derived.Test.YtgfldmhpindbpaaDoorNatB
namespace Go.Fw
open Go Go.RowKit

def getP : List (Nat × Nat) → Nat → Option (Nat × Nat)
  | [], _ => none
  | p :: _, 0 => some p
  | _ :: l, n + 1 => getP l n
theorem getP_eq : ∀ (l : List (Nat × Nat)) (i : Nat), getP l i = l[i]?
  | [], _ => by simp [getP]
  | _ :: _, 0 => by simp [getP]
  | _ :: l, n + 1 => by simpa [getP] using getP_eq l n
/-- A literal's parts, one after the other, over the zero cells. -/
def fillS (offs : List (Nat × Nat)) (cs : List Value) : List (Nat × List Value) → Option (List Value)
  | [] => some cs
  | (i, vs) :: rest => match getP offs i with
    | none => none
    | some (o, s) => bif Nat.beq vs.length s && Nat.ble (o + s) cs.length then fillS offs (setAll cs o vs) rest else none
theorem foldl_set_eq : ∀ (vs : List Value) (a : Array Value) (o k : Nat), (vs.zipIdx k).foldl (fun (cs : Array Value) (x : Value × Nat) => cs.setIfInBounds (o + x.2) x.1) a = (setAll a.toList (o + k) vs).toArray
  | [], a, o, k => by simp [setAll]
  | v :: vs, a, o, k => by
    rw [List.zipIdx_cons, List.foldl_cons, foldl_set_eq vs _ o (k + 1), setAll]
    congr 2
    rw [updL_set]; simp
theorem fill_step {place : Nat → Option (Nat × Nat)} {i o s : Nat} {v : Value} {vs cs : List Value} {rest : List (Nat × Value)} (hp : place i = some (o, s)) (hv : v.cells = vs.toArray) (hs : vs.length = s) (ho : o + s ≤ cs.length) :
    Instr.fill place cs.toArray ((i, v) :: rest) = Instr.fill place (setAll cs o vs).toArray rest := by
  rw [Instr.fill, hp]
  simp only [hv]
  rw [if_neg (by simp [hs]; omega)]
  congr 1
  have h := foldl_set_eq vs cs.toArray o 0
  rw [Nat.add_zero] at h
  simpa using h
theorem fill_eq {place : Nat → Option (Nat × Nat)} {offs : List (Nat × Nat)} (hpl : ∀ i, place i = offs[i]? ∨ offs[i]? = none) : ∀ {pv : List (Nat × Value)} {pvs : List (Nat × List Value)} {cs r : List Value},
    pv.map Prod.fst = pvs.map Prod.fst → pv.map (fun p => p.2.cells) = pvs.map (fun p => p.2.toArray) → fillS offs cs pvs = some r → Instr.fill place cs.toArray pv = some r.toArray
  | [], [], cs, r, _, _, h => by simp [fillS] at h; subst h; rfl
  | [], _ :: _, _, _, h, _, _ => by simp at h
  | _ :: _, [], _, _, h, _, _ => by simp at h
  | (i, v) :: pv, (j, vs) :: pvs, cs, r, h1, h2, h => by
    simp at h1 h2
    obtain ⟨rfl, h1⟩ := h1
    rw [fillS] at h
    cases hg : getP offs i with
    | none => rw [hg] at h; simp at h
    | some q =>
      obtain ⟨o, s⟩ := q
      rw [hg] at h
      simp only at h
      cases hc : (Nat.beq vs.length s && Nat.ble (o + s) cs.length) with
      | false => rw [hc] at h; simp at h
      | true =>
        rw [hc] at h
        simp only [cond_true] at h
        have hc' := hc
        rw [Bool.and_eq_true] at hc'
        have e1 : vs.length = s := Nat.eq_of_beq_eq_true hc'.1
        have e2 : o + s ≤ cs.length := Nat.le_of_ble_eq_true hc'.2
        have hpi : place i = some (o, s) := by
          rcases hpl i with h' | h'
          · rw [h', ← getP_eq, hg]
          · rw [← getP_eq, hg] at h'; cases h'
        rw [fill_step hpi h2.1 e1 e2]
        exact fill_eq hpl (by simpa using h1) (by simpa using h2.2) h
/-- A literal's parts, read off the frame. -/
def EvParts (fr : Fr) : List (Nat × Operand) → List (Nat × List Value) → Prop
  | [], l => l = []
  | p :: ps, l => match l with
    | [] => False
    | q :: qs => (p.1 = q.1 ∧ ∃ v, Ev fr p.2 v ∧ v.cells = q.2.toArray) ∧ EvParts fr ps qs
theorem EvParts.eq {fr : Fr} : ∀ {ps : List (Nat × Operand)} {qs : List (Nat × List Value)}, EvParts fr ps qs →
    (ps.map fun p => (p.1, ev fr p.2)).map Prod.fst = qs.map Prod.fst ∧ (ps.map fun p => (p.1, ev fr p.2)).map (fun p => p.2.cells) = qs.map (fun p => p.2.toArray)
  | [], _, h => by rw [show _ = [] from h]; simp
  | p :: ps, [], h => h.elim
  | p :: ps, q :: qs, h => by
    obtain ⟨⟨h1, v, h2, h3⟩, h4⟩ := h
    have ih := EvParts.eq h4
    simp only [List.map_cons, List.cons.injEq]
    refine ⟨⟨h1, ih.1⟩, ?_, ih.2⟩
    show (ev fr p.2).cells = _
    rw [h2.eq, h3]
/-- The fields' places and the zero cells of a struct type. -/
def stOf (P : Program) (T : TypeId) : Option (List (Nat × Nat) × List Value) :=
  match P.underlying T, P.info? T with
  | some (.struct fields), some i => match i.zero, (fields.toList.mapM fun f => (P.info? f.type).map fun i => (f.offset, i.size)) with
    | some z, some l => some (l, z.cells.toList)
    | _, _ => none
  | _, _ => none
theorem mapM_places {P : Program} {w : World} : ∀ {fs : List Field} {l : List (Nat × Nat)}, (fs.mapM fun f => (P.info? f.type).map fun i => (f.offset, i.size)) = some l →
    (fs.mapM fun f => (do pure (f.offset, ← sizeOf f.type) : Sem (Nat × Nat))).run P w = .ok l w
  | [], l, h => by simp at h; subst h; rfl
  | f :: fs, l, h => by
    rw [List.mapM_cons] at h
    cases hi : P.info? f.type with
    | none => simp [hi] at h
    | some i =>
      cases hr : (fs.mapM fun f => (P.info? f.type).map fun i => (f.offset, i.size)) with
      | none => simp [hi, hr] at h
      | some l' =>
        simp [hi, hr] at h
        subst h
        rw [List.mapM_cons]
        have ih := mapM_places (w := w) hr
        simp only [Sem.run_bind, sizeOf, typeInfo, run_program, hi, Result.andThen_ok, Sem.run_pure] at ih ⊢
        simp only [ih, Result.andThen_ok]

section
variable {P : Program} {Q : Exit → Act → World → Prop} {w0 : Ctx} {σ σ' : List Res} {φ φ' : List (Bool × VP)} {fr : Fr} {ops : Array Oper} {rest : List Oper}
  {d : Nat} {ty : TypeId} {pos : String} {aft : Array Edge}
/-- 'T{..}' -/
theorem JL_build {T : TypeId} {offs : List (Nat × Nat)} {zs cs : List Value} {parts : List (Nat × Operand)} (pvs : List (Nat × List Value)) (hs : stOf P T = some (offs, zs)) (hp : EvParts fr parts pvs) (hf : fillS offs zs pvs = some cs)
    (k : JL P ops Q w0 σ φ rest (upd fr d (.agg cs.toArray))) : JL P ops Q w0 σ φ (⟨some d, .build T parts.toArray, ty, pos, aft, none⟩ :: rest) fr := by
  refine JL_pure _ (fun w => ?_) k
  unfold stOf at hs
  split at hs
  · rename_i fields i hu hi
    split at hs
    · rename_i z l hz hl
      simp only [Option.some.injEq, Prod.mk.injEq] at hs
      obtain ⟨rfl, rfl⟩ := hs
      obtain ⟨e1, e2⟩ := hp.eq
      have hm := mapM_places (P := P) (w := w) hl
      have hm' : (fields.mapM fun f => (do pure (f.offset, ← sizeOf f.type) : Sem (Nat × Nat))).run P w = .ok l.toArray w := by
        rw [show fields = fields.toList.toArray from (Array.toArray_toList).symm, List.mapM_toArray, Sem.run_map, hm]; rfl
      have hfill := fill_eq (place := (l.toArray[·]?)) (offs := l) (fun i => .inl (by simp)) e1 e2 hf
      simp only [execOp, List.map_toArray, Instr.build, Sem.run_bind, zeroValue, typeInfo, run_program, hi, hz, Result.andThen_ok, Sem.run_pure, run_underlying hu, hm'] 
      simp only [Array.toArray_toList] at hfill
      rw [hfill]
      simp
    · cases hs
  · cases hs
/-- '[]T{..}' -/
theorem JL_buildN {t e : TypeId} {sz by' n : Nat} {zs cs0 cs : List Value} {parts : List (Nat × Operand)} (pvs : List (Nat × List Value)) (hs : slOf P t = some (e, sz, by', zs)) (hz : (Array.range (n * sz)).map (zs.toArray[· % zs.toArray.size]!) = cs0.toArray)
    (hp : EvParts fr parts pvs) (hf : fillS ((List.range n).map fun i => (i * sz, sz)) cs0 pvs = some cs) (hsmall : Nat.ble (n * sz) 16777216 = true) (hsmall2 : Nat.ble n 16777216 = true) (hlen : cs.length = n * sz)
    (k : ∀ g, JL P ops Q w0 (σ ++ [osl (some ⟨g, 0, none⟩) n n e sz cs]) φ rest (upd fr d (.slice (some ⟨g, 0, none⟩) n n))) :
    JL P ops Q w0 σ φ (⟨some d, .buildSlice t n parts.toArray, ty, pos, aft, none⟩ :: rest) fr := by
  obtain ⟨e1, e2⟩ := hp.eq
  refine JL_buildSlice (pv := parts.map fun p => (p.1, ev fr p.2)) (vs := cs) hs (by simp) (Nat.le_of_ble_eq_true hsmall) (Nat.le_of_ble_eq_true hsmall2) hlen ?_ k
  rw [hz]
  refine fill_eq (offs := (List.range n).map fun i => (i * sz, sz)) (fun i => ?_) e1 e2 hf
  by_cases hi : i < n
  · left; simp [hi]
  · right; simp; omega
end

/-! ## A slice of limbs as one thing -/
structure Sl where
  ad : Option Addr
  cap : Nat
  L : List Nat
abbrev Sl.v (s : Sl) : Value := .slice s.ad s.L.length s.cap
abbrev Sl.w (s : Sl) : VP := vCells s.ad (u32s s.L)
abbrev Sl.n (s : Sl) : Value := .agg #[.slice s.ad s.L.length s.cap]
def Sl.ok (s : Sl) : Prop := s.L.length ≤ s.cap ∧ s.cap ≤ 9223372036854775807
def Sl.nil : Sl := ⟨none, 0, []⟩
theorem Sl.nil_ok : Sl.nil.ok := ⟨Nat.le_refl _, Nat.zero_le _⟩
/-- A natural that is n, in canonical limbs. -/
def Sl.is (s : Sl) (n : Nat) : Prop := s.L = Nat9.limbsOf n
/-- Limbs as the machine holds them. -/
def U32 (L : List Nat) : Prop := ∀ a ∈ L, a < 4294967296
theorem U32.getD {L : List Nat} (h : U32 L) (k : Nat) : L.getD k 0 < 4294967296 := by
  rw [List.getD_eq_getElem?_getD]
  cases hk : L[k]? with
  | none => simp
  | some a => exact h a (List.mem_of_getElem? hk)
theorem U32.ofDig {L : List Nat} (h : Nat9.Dig L) : U32 L := fun a ha => Nat.lt_trans (h a ha) (by decide)
/-- A fraction's parts. -/
structure Fq where
  neg : Bool
  num : Sl
  den : Sl
abbrev Fq.v (x : Fq) : Value := .agg #[.bool x.neg, .slice x.num.ad x.num.L.length x.num.cap, .slice x.den.ad x.den.L.length x.den.cap]
/-- New views ahead of the old ones. -/
abbrev mapB (b : Bool) : List VP → List (Bool × VP) → List (Bool × VP)
  | [], φ => φ
  | p :: l, φ => (b, p) :: mapB b l φ
theorem mapB_eq (b : Bool) : ∀ (l : List VP) (φ : List (Bool × VP)), mapB b l φ = l.map (fun p => (b, p)) ++ φ
  | [], _ => rfl
  | p :: l, φ => congrArg ((b, p) :: ·) (mapB_eq b l φ)
theorem mapB_l {b : Bool} {l : List VP} {φ : List (Bool × VP)} {p : VP} (h : p ∈ l) : (b, p) ∈ mapB b l φ := by rw [mapB_eq]; exact List.mem_append_left _ (List.mem_map.2 ⟨p, h, rfl⟩)
theorem mapB_r {b : Bool} {l : List VP} {φ : List (Bool × VP)} {p : Bool × VP} (h : p ∈ φ) : p ∈ mapB b l φ := by rw [mapB_eq]; exact List.mem_append_right _ h
section
variable {w0 : Ctx} {σ : List Res} {φ : List (Bool × VP)}
theorem nil_view {w : World} {X : Nat → Prop} : Sl.nil.w.holds X w := by
  intro j u hj; simp [Sl.nil, u32s] at hj
end
section
variable {P : Program} {Q : Exit → Act → World → Prop} {w0 : Ctx} {σ σ' : List Res} {φ φ' : List (Bool × VP)} {fr : Fr} {ops : Array Oper} {rest : List Oper}
  {d : Nat} {ty : TypeId} {pos : String} {aft : Array Edge}
theorem JL_callF' {f : FuncId} {x : Operand} {xs : List Operand} {ts : Array TypeId} {vs : List Value} {φin : List VP} {Post : Value → List VP → Prop}
    (hin : Asks w0 σ φ φin) (con : ConF P f vs φin Post) (hf : Ev fr x (.func (.func f) #[] #[])) (hc : callable P f = true) (ha : EvL fr xs vs)
    (k : ∀ v φo, Post v φo → JL P ops Q w0 σ (mapB true φo φ) rest (upd fr d v)) :
    JL P ops Q w0 σ φ (⟨some d, .call { callee := .value x, args := xs.toArray, argTypes := ts }, ty, pos, aft, none⟩ :: rest) fr := JL_callF con hf hc ha hin fun v φo h => mapB_eq true φo φ ▸ k v φo h
theorem JL_callA' {f : FuncId} {x : Operand} {xs : List Operand} {ts : Array TypeId} {vs : List Value} {φin : List VP} {Post : Value → List VP → Prop} (b : Bool)
    (hin : AsksA w0 σ φ b φin) (con : ConA P f vs φin Post) (hf : Ev fr x (.func (.func f) #[] #[])) (hc : callable P f = true) (ha : EvL fr xs vs)
    (k : ∀ v φo, Post v φo → JL P ops Q w0 σ (mapB b φo φ) rest (upd fr d v)) :
    JL P ops Q w0 σ φ (⟨some d, .call { callee := .value x, args := xs.toArray, argTypes := ts }, ty, pos, aft, none⟩ :: rest) fr := JL_callA b con hf hc ha hin fun v φo h => mapB_eq b φo φ ▸ k v φo h
theorem JL_splitEqB {a b : Bool} {l : List Oper} (ht : a = b → JL P ops Q w0 σ φ l (upd fr d (.bool true))) (hf : a ≠ b → JL P ops Q w0 σ φ l (upd fr d (.bool false))) : JL P ops Q w0 σ φ l (upd fr d (.bool (a == b))) := by
  by_cases h : a = b
  · rw [beq_iff_eq.2 h]; exact ht h
  · rw [beq_eq_false_iff_ne.2 h]; exact hf h
theorem JL_splitNeB {a b : Bool} {l : List Oper} (ht : a ≠ b → JL P ops Q w0 σ φ l (upd fr d (.bool true))) (hf : a = b → JL P ops Q w0 σ φ l (upd fr d (.bool false))) : JL P ops Q w0 σ φ l (upd fr d (.bool (a != b))) := by
  by_cases h : a = b
  · rw [show (a != b) = false from by simp [h]]; exact hf h
  · rw [show (a != b) = true from by simp [h]]; exact ht h
/-- A slot's truth value, known or not, taken apart. -/
theorem JL_splitV {b : Bool} {l : List Oper} (ht : b = true → JL P ops Q w0 σ φ l (upd fr d (.bool true))) (hf : b = false → JL P ops Q w0 σ φ l (upd fr d (.bool false))) : JL P ops Q w0 σ φ l (upd fr d (.bool b)) := by
  cases b with
  | true => exact ht rfl
  | false => exact hf rfl
theorem JC_drawT {n : Nat} {b : List Value} (hm : P.follows .mixedOrders = true) {id : Nat} {l : List Oper} (np : Nat) (ss : List Sp) (hob : OblsS P l w0 σ φ n b ss ss l) (hok : drawOk l np (ss.map fun s => (s.d, s.preds)) = true)
    (hfin : ∀ vals bs, JL P l.toArray Q w0 (σ ++ madeS bs ss 0) (allPosts vals ss 0 ++ φ) (l.drop np) ⟨n, pendsF vals bs ss 0, b⟩) :
    JC P (.region id l.toArray true) Q w0 σ φ ⟨n, [], b⟩ := JC_drawS hm np n ss hok hob hfin
theorem JL_storeU {T E : TypeId} {x y : Operand} {ad : Option Addr} {n cap j : Nat} {L : List Nat} {a : Int} (i v : Nat) (hT : tyOf P T = some (false, 1)) (hx : Ev fr x (ptrAt ad j)) (hy : Ev fr y (.int .u32 a))
    (hσ : Nth σ i (osl ad n cap E 1 (u32s L))) (hv : a = (v : Int)) (hj : j < L.length) (k : JL P ops Q w0 (updL σ i (osl ad n cap E 1 (u32s (L.set j v)))) φ rest fr) : JL P ops Q w0 σ φ (⟨none, .store T x y, ty, pos, aft, none⟩ :: rest) fr := by
  subst hv
  refine JL_storeE (vs := [.int .u32 (v : Int)]) i hT (Nat.lt_succ_self 0) hx hy rfl (AllOne.cons rfl AllOne.nil) hσ (by rw [u32s_length]; exact hj) ?_
  rw [u32s_set]; exact k
theorem JL_storeI {T E : TypeId} {x y : Operand} {ad : Option Addr} {n cap j : Nat} {L : List Int} {a : Int} (i : Nat) (hT : tyOf P T = some (false, 1)) (hx : Ev fr x (ptrAt ad j)) (hy : Ev fr y (.int .i64 a))
    (hσ : Nth σ i (osl ad n cap E 1 (i64s L))) (hj : j < L.length) (k : JL P ops Q w0 (updL σ i (osl ad n cap E 1 (i64s (L.set j a)))) φ rest fr) : JL P ops Q w0 σ φ (⟨none, .store T x y, ty, pos, aft, none⟩ :: rest) fr := by
  refine JL_storeE (vs := [.int .i64 a]) i hT (Nat.lt_succ_self 0) hx hy rfl (AllOne.cons rfl AllOne.nil) hσ (by rw [i64s_length]; exact hj) ?_
  rw [i64s_set]; exact k
theorem JC_cutT {x y : Code} (ι : Type) (C : ι → Prop) (ov : (Nat → Value) → ι → List (Option Value)) (os : ι → List (Option Res)) (fv : ι → List (Bool × VP))
    (h1 : JC P x (MidS w0 σ φ fr C ov os fv Q) w0 σ φ fr) (h2 : ∀ u i, C i → JC P y Q w0 (mix σ (os i)) (fv i ++ φ) (mixF fr (ov u i))) : JC P x (Then P y Q) w0 σ φ fr := by
  intro w st
  refine wp_mono (h1 w st) ?_
  intro e a w' h
  cases e with
  | normal =>
    obtain ⟨i, hC, rfl, hs⟩ := h
    exact h2 i.1 i.2 hC w' hs
  | _ => exact h
theorem JE_nilView {e : Exit} (k : JE Q e w0 σ ((true, vCells none (u32s [])) :: φ) fr) : JE Q e w0 σ φ fr := JE_addView (fun _ _ => nil_view) k
theorem JL_nilView {l : List Oper} (k : JL P ops Q w0 σ ((true, vCells none (u32s [])) :: φ) l fr) : JL P ops Q w0 σ φ l fr := JL_addView (fun _ _ => nil_view) k
theorem JC_nilView {c : Code} (k : JC P c Q w0 σ ((true, vCells none (u32s [])) :: φ) fr) : JC P c Q w0 σ φ fr := JC_addView (fun _ _ => nil_view) k
end
end Go.Fw
