/- A small program logic over the model: judgements on symbolic states (own resources, views of immutable data, a frame of slots), with one rule for each statement form. -/
import Derived.WalkKit
import Derived.WalkLawsBesides
import Derived.WalkSpells
namespace Go.Fw
open Go Go.RowKit

def lookL : List Value → Nat → Value
  | [], _ => undef
  | v :: _, 0 => v
  | _ :: l, n + 1 => lookL l n
def updV : List Value → Nat → Value → List Value
  | [], _, _ => []
  | _ :: l, 0, x => x :: l
  | v :: l, n + 1, x => v :: updV l n x
theorem updV_zero (v : Value) (l : List Value) (x : Value) : updV (v :: l) 0 x = x :: l := rfl
theorem updV_succ (v : Value) (l : List Value) (n : Nat) (x : Value) : updV (v :: l) (n + 1) x = v :: updV l n x := rfl
/-- A frame of n slots: what was written lately (newest first), and what was there before. -/
structure Fr where
  n : Nat
  pend : List (Nat × Value)
  base : List Value
def lkP : List (Nat × Value) → List Value → Nat → Value
  | [], b, t => lookL b t
  | (d, v) :: p, b, t => bif Nat.beq d t then v else lkP p b t
def flatP : List (Nat × Value) → List Value → List Value
  | [], b => b
  | (d, v) :: p, b => updV (flatP p b) d v
/-- What a slot holds. -/
def look (fr : Fr) (t : Nat) : Value := bif Nat.blt t fr.n then lkP fr.pend fr.base t else undef
def upd (fr : Fr) (d : Nat) (v : Value) : Fr := ⟨fr.n, (d, v) :: fr.pend, fr.base⟩
theorem upd_n (fr : Fr) (d : Nat) (v : Value) : (upd fr d v).n = fr.n := rfl
theorem upd_pend (fr : Fr) (d : Nat) (v : Value) : (upd fr d v).pend = (d, v) :: fr.pend := rfl
theorem upd_base (fr : Fr) (d : Nat) (v : Value) : (upd fr d v).base = fr.base := rfl
def ev (fr : Fr) : Operand → Value
  | .tmp t => look fr t
  | .const v => v
  | .global g => .pointer (some ⟨g, 0, none⟩)
  | .func f => .func (.func f) #[] #[]
def act (fr : Fr) : Act := ⟨((List.range fr.n).map (lkP fr.pend fr.base)).toArray, []⟩

theorem blt_true {t n : Nat} (h : t < n) : Nat.blt t n = true := Nat.ble_eq_true_of_le h
theorem blt_lt {t n : Nat} (h : Nat.blt t n = true) : t < n := Nat.le_of_ble_eq_true h
theorem look_getD (fr : Fr) (t : Nat) : (act fr).tmps.getD t undef = look fr t := by
  unfold look act
  by_cases h : t < fr.n
  · have hb : Nat.blt t fr.n = true := blt_true h
    rw [hb]
    simp [Array.getD, h]
  · have hb : Nat.blt t fr.n = false := by
      cases hb : Nat.blt t fr.n with
      | false => rfl
      | true => exact absurd (blt_lt hb) h
    rw [hb]
    simp [Array.getD, h]
theorem look_get? {fr : Fr} {t : Nat} (h : t < fr.n) : (act fr).tmps[t]? = some (look fr t) := by
  have hb : Nat.blt t fr.n = true := blt_true h
  unfold look act
  rw [hb]
  simp [h]
theorem act_eval (fr : Fr) (x : Operand) : (act fr).eval x = ev fr x := by
  cases x <;> simp only [Act.eval, ev, look_getD]
theorem act_eval_fun (fr : Fr) : (act fr).eval = ev fr := funext (act_eval fr)
theorem act_put (fr : Fr) (d : Nat) (v : Value) : (act fr).put (some d) v = act (upd fr d v) := by
  suffices this : ((act fr).tmps.setIfInBounds d v) = (act (upd fr d v)).tmps from by
    show (⟨(act fr).tmps.setIfInBounds d v, []⟩ : Act) = ⟨(act (upd fr d v)).tmps, []⟩
    rw [this]
  unfold act upd
  apply Array.ext
  · simp
  · intro i h1 h2
    simp only [List.setIfInBounds_toArray, List.getElem_toArray, List.getElem_set, List.getElem_map, List.getElem_range]
    by_cases h : d = i
    · subst h; simp [lkP]
    · have hb : Nat.beq d i = false := by
        cases hb : Nat.beq d i with
        | false => rfl
        | true => exact absurd (Nat.eq_of_beq_eq_true hb) h
      simp [lkP, h, hb]
theorem act_put_none (fr : Fr) (v : Value) : (act fr).put none v = act fr := rfl
theorem nrmF : (∀ (fr : Fr) (d : Nat) (v : Value), (upd fr d v).pend = (d, v) :: fr.pend) ∧ (∀ (fr : Fr) (d : Nat) (v : Value), (upd fr d v).base = fr.base) ∧ (∀ b : List Value, flatP [] b = b) ∧
    (∀ (d : Nat) (v : Value) (p : List (Nat × Value)) (b : List Value), flatP ((d, v) :: p) b = updV (flatP p b) d v) ∧ (∀ (v : Value) (l : List Value) (x : Value), updV (v :: l) 0 x = x :: l) ∧
    (∀ (v : Value) (l : List Value) (n : Nat) (x : Value), updV (v :: l) (n + 1) x = v :: updV l n x) :=
  ⟨fun _ _ _ => rfl, fun _ _ _ => rfl, fun _ => rfl, fun _ _ _ _ => rfl, fun _ _ _ => rfl, fun _ _ _ _ => rfl⟩
theorem lenS {α : Type} : (∀ a b : List α, (a ++ b).length = a.length + b.length) ∧ (∀ (x : α) (l : List α), (x :: l).length = l.length + 1) ∧ (([] : List α).length = 0) ∧ (∀ (l : List α) (i : Nat) (x : α), (l.set i x).length = l.length) ∧
    (∀ (n : Nat) (x : α), (List.replicate n x).length = n) ∧ (∀ (n : Nat) (l : List α), (l.take n).length = min n l.length) ∧ (∀ (n : Nat) (l : List α), (l.drop n).length = l.length - n) :=
  ⟨fun _ _ => List.length_append, fun _ _ => rfl, rfl, fun _ _ _ => List.length_set, fun _ _ => List.length_replicate, fun _ _ => List.length_take, fun _ _ => List.length_drop⟩
theorem length_updV : ∀ (l : List Value) (t : Nat) (x : Value), (updV l t x).length = l.length
  | [], _, _ => rfl
  | _ :: _, 0, _ => rfl
  | _ :: l, t + 1, x => by rw [updV_succ, List.length_cons, length_updV l t x, List.length_cons]
theorem lookL_updV_same : ∀ (l : List Value) (t : Nat) (x : Value), t < l.length → lookL (updV l t x) t = x
  | [], _, _, h => by simp at h
  | _ :: _, 0, _, _ => rfl
  | _ :: l, t + 1, x, h => lookL_updV_same l t x (by simpa using h)
theorem lookL_updV_other : ∀ (l : List Value) (t s : Nat) (x : Value), t ≠ s → lookL (updV l t x) s = lookL l s
  | [], _, _, _, _ => rfl
  | _ :: _, 0, 0, _, h => absurd rfl h
  | _ :: _, 0, _ + 1, _, _ => rfl
  | _ :: _, _ + 1, 0, _, _ => rfl
  | _ :: l, t + 1, s + 1, x, h => lookL_updV_other l t s x (by omega)
theorem length_flatP : ∀ (p : List (Nat × Value)) (b : List Value), (flatP p b).length = b.length
  | [], _ => rfl
  | (d, v) :: p, b => by rw [flatP, length_updV, length_flatP p b]
theorem lookL_flatP : ∀ (p : List (Nat × Value)) (b : List Value) (t : Nat), t < b.length → lookL (flatP p b) t = lkP p b t
  | [], _, _, _ => rfl
  | (d, v) :: p, b, t, h => by
    rw [flatP, lkP]
    by_cases e : d = t
    · subst e
      rw [lookL_updV_same _ _ _ (by rw [length_flatP]; exact h)]
      simp
    · rw [lookL_updV_other _ _ _ _ e, lookL_flatP p b t h]
      have hb : Nat.beq d t = false := by
        cases hb : Nat.beq d t with
        | false => rfl
        | true => exact absurd (Nat.eq_of_beq_eq_true hb) e
      rw [hb]; rfl
/-- The frame written out. -/
theorem act_flat {fr : Fr} {n : Nat} {b' : List Value} (hn : fr.n = n) (hl : Nat.ble n fr.base.length = true) (h : flatP fr.pend fr.base = b') : act fr = act ⟨n, [], b'⟩ := by
  subst hn h
  unfold act
  congr 2
  apply List.map_congr_left
  intro t ht
  have hlt : t < fr.n := List.mem_range.1 ht
  have := Nat.le_of_ble_eq_true hl
  exact (lookL_flatP fr.pend fr.base t (by omega)).symm
theorem lookL_eq : ∀ (l : List Value) (t : Nat) (h : t < l.length), lookL l t = l[t]
  | _ :: _, 0, _ => rfl
  | _ :: l, t + 1, h => lookL_eq l t (by simpa using h)
theorem act_start (b : List Value) : act ⟨b.length, [], b⟩ = ⟨b.toArray, []⟩ := by
  unfold act
  congr 1
  apply Array.ext
  · simp
  · intro i h1 h2
    simp only [List.getElem_toArray, List.getElem_map, List.getElem_range, lkP]
    exact lookL_eq b i (by simpa using h2)

/-- A view: what holds of immutable data that avoids the blocks in X. -/
structure VP where
  holds : (Nat → Prop) → World → Prop
  mono : ∀ (X X' : Nat → Prop) (w w' : World), holds X w → w.heap.size ≤ w'.heap.size →
    (∀ k, k < w.heap.size → ¬ X k → w'.heap[k]? = w.heap[k]?) → (∀ k, k < w.heap.size → X' k → X k) → holds X' w'

def vPure (p : Prop) : VP := ⟨fun _ _ => p, fun _ _ _ _ h _ _ _ => h⟩
def vAnd (p q : VP) : VP := ⟨fun X w => p.holds X w ∧ q.holds X w, fun X X' w w' h a b c => ⟨p.mono X X' w w' h.1 a b c, q.mono X X' w w' h.2 a b c⟩⟩
def vEx {α : Type} (p : α → VP) : VP := ⟨fun X w => ∃ x, (p x).holds X w, fun X X' w w' h a b c => h.elim fun x hx => ⟨x, (p x).mono X X' w w' hx a b c⟩⟩
def vAll {α : Type} (p : α → VP) : VP := ⟨fun X w => ∀ x, (p x).holds X w, fun X X' w w' h a b c x => (p x).mono X X' w w' (h x) a b c⟩
def vList (l : List VP) : VP := ⟨fun X w => ∀ p ∈ l, p.holds X w, fun X X' w w' h a b c p hp => p.mono X X' w w' (h p hp) a b c⟩

/-- The cells xs lie at ad (ad may be nothing where xs is empty). -/
def CellsAt (X : Nat → Prop) (w : World) (ad : Option Addr) (xs : List Value) : Prop :=
  ∀ (j : Nat) (u : Value), xs[j]? = some u → ∃ b o, ad = some ⟨b, o, none⟩ ∧ ¬ X b ∧ w.cell? ⟨b, o + j, none⟩ = some u
theorem block_of_cell {w : World} {b o : Nat} {u : Value} (h : w.cell? ⟨b, o, none⟩ = some u) : b < w.heap.size := World.block_lt_of_cell? w _ h
theorem CellsAt.mono {X X' : Nat → Prop} {w w' : World} {ad : Option Addr} {xs : List Value} (h : CellsAt X w ad xs)
    (hb : ∀ k, k < w.heap.size → ¬ X k → w'.heap[k]? = w.heap[k]?) (hx : ∀ k, k < w.heap.size → X' k → X k) : CellsAt X' w' ad xs := by
  intro j u hj
  obtain ⟨b, o, he, hX, hc⟩ := h j u hj
  have hlt := block_of_cell hc
  refine ⟨b, o, he, fun h' => hX (hx b hlt h'), ?_⟩
  rw [World.cell?_of_block (w := w) (a := ⟨b, o + j, none⟩) (hb b hlt hX)]
  exact hc
/-- A slice's view: its elements' cells, `sz` to an element. -/
def vCells (ad : Option Addr) (xs : List Value) : VP := ⟨fun X w => CellsAt X w ad xs, fun _ _ _ _ h _ b c => h.mono b c⟩

/-- An own resource. -/
structure Res where
  key : Option Nat
  holds : World → Prop
  lt : ∀ w, holds w → ∀ k, key = some k → k < w.heap.size
  mono : ∀ w w', holds w → (∀ k, key = some k → w'.heap[k]? = w.heap[k]?) → holds w'

def box (b : Nat) (T : TypeId) (cs : List Value) : Res where
  key := some b
  holds w := w.heap[b]? = some (.cells cs.toArray T (0, 0))
  lt w h k hk := by
    obtain rfl : b = k := by simpa using hk
    exact (Array.getElem?_eq_some_iff.1 h).1
  mono w w' h hk := (hk b rfl).trans h
/-- An owned slice: n elements of type E (sz cells each), the cells xs. -/
def osl (ad : Option Addr) (n cap : Nat) (E : TypeId) (sz : Nat) (xs : List Value) : Res where
  key := (Value.slice ad n cap).ownBlock
  holds w := w.ownsRow 0 E sz (.slice ad n cap) n xs
  lt w h k hk := (h.lt k hk).2
  mono w w' h hk := by
    refine ⟨h.1, ?_⟩
    rcases h.2 with hn | ⟨g, cap', cur, hv, hb, hgg, rest⟩
    · exact .inl hn
    · refine .inr ⟨g, cap', cur, hv, hb, ?_, rest⟩
      rw [hk g (by rw [hv]; rfl)]
      exact hgg

/-- The world as the call began, and the blocks that flagged views avoid. -/
structure Ctx where
  w : World
  Y : Nat → Prop
  hY : ∀ k, Y k → k < w.heap.size
def Xof (w0 : Ctx) (σ : List Res) (f : Bool) (k : Nat) : Prop := (∃ r ∈ σ, r.key = some k) ∨ (f = true ∧ w0.Y k)

structure St (w0 : Ctx) (w : World) (σ : List Res) (φ : List (Bool × VP)) : Prop where
  base : Below w0.w.heap.size w0.w w
  own : ∀ r ∈ σ, r.holds w
  fresh : ∀ r ∈ σ, ∀ k, r.key = some k → w0.w.heap.size ≤ k
  dist : σ.Pairwise fun r s => ∀ k, r.key = some k → s.key ≠ some k
  views : ∀ p ∈ φ, p.2.holds (Xof w0 σ p.1) w

/-- The world grows: all that was there is as it was. -/
theorem St.ext {w0 : Ctx} {w w' : World} {σ : List Res} {φ : List (Bool × VP)} (h : St w0 w σ φ) (hb : Below w.heap.size w w') : St w0 w' σ φ where
  base := h.base.trans (hb.mono h.base.size)
  own r hr := r.mono w w' (h.own r hr) fun k hk => hb.block k (r.lt w (h.own r hr) k hk)
  fresh := h.fresh
  dist := h.dist
  views p hp := p.2.mono _ _ w w' (h.views p hp) hb.size (fun k hk _ => hb.block k hk) fun _ _ h => h

theorem St.addView {w0 : Ctx} {w : World} {σ : List Res} {φ : List (Bool × VP)} (h : St w0 w σ φ) {p : Bool × VP} (hp : p.2.holds (Xof w0 σ p.1) w) : St w0 w σ (p :: φ) where
  base := h.base
  own := h.own
  fresh := h.fresh
  dist := h.dist
  views q hq := by
    rcases List.mem_cons.1 hq with rfl | hq
    · exact hp
    · exact h.views q hq
theorem St.addViews {w0 : Ctx} {w : World} {σ : List Res} {φ ψ : List (Bool × VP)} (h : St w0 w σ φ) (hp : ∀ p ∈ ψ, p.2.holds (Xof w0 σ p.1) w) : St w0 w σ (φ ++ ψ) where
  base := h.base
  own := h.own
  fresh := h.fresh
  dist := h.dist
  views q hq := by
    rcases List.mem_append.1 hq with hq | hq
    · exact h.views q hq
    · exact hp q hq
theorem St.weaken {w0 : Ctx} {w : World} {σ : List Res} {φ φ' : List (Bool × VP)} (h : St w0 w σ φ) (hs : ∀ p ∈ φ', p ∈ φ) : St w0 w σ φ' where
  base := h.base
  own := h.own
  fresh := h.fresh
  dist := h.dist
  views q hq := h.views q (hs q hq)
/-- A new block among the own resources (put last). -/
theorem St.addRes {w0 : Ctx} {w w' : World} {σ : List Res} {φ : List (Bool × VP)} (h : St w0 w σ φ) (r : Res) (hb : Below w.heap.size w w') (hr : r.holds w') (hk : ∀ k, r.key = some k → w.heap.size ≤ k) : St w0 w' (σ ++ [r]) φ where
  base := h.base.trans (hb.mono h.base.size)
  own s hs := by
    rcases List.mem_append.1 hs with hs | hs
    · exact s.mono w w' (h.own s hs) fun k hk => hb.block k (s.lt w (h.own s hs) k hk)
    · obtain rfl := List.mem_singleton.1 hs
      exact hr
  fresh s hs k hk' := by
    rcases List.mem_append.1 hs with hs | hs
    · exact h.fresh s hs k hk'
    · obtain rfl := List.mem_singleton.1 hs
      exact Nat.le_trans h.base.size (hk k hk')
  dist := by
    refine List.pairwise_append.2 ⟨h.dist, List.pairwise_singleton _ _, ?_⟩
    intro s hs t ht k hsk htk
    obtain rfl := List.mem_singleton.1 ht
    have h1 := s.lt w (h.own s hs) k hsk
    have h2 := hk k htk
    omega
  views p hp := p.2.mono _ _ w w' (h.views p hp) hb.size (fun k hk _ => hb.block k hk) (by
    intro k hk hX
    rcases hX with ⟨s, hs, hsk⟩ | hX
    · rcases List.mem_append.1 hs with hs | hs
      · exact .inl ⟨s, hs, hsk⟩
      · obtain rfl := List.mem_singleton.1 hs
        have h2 := hk k hsk
        omega
    · exact .inr hX)

theorem mem_set_cases {α : Type} {l : List α} {i : Nat} {x y : α} (h : y ∈ l.set i x) : y = x ∨ y ∈ l := by
  rcases List.mem_or_eq_of_mem_set h with h | h
  · exact .inr h
  · exact .inl h

/-- Resource number i turns into r', whose key is the old one, or a new block; all other blocks are as they were. -/
theorem St.setRes {w0 : Ctx} {w w' : World} {σ : List Res} {φ : List (Bool × VP)} (h : St w0 w σ φ) (i : Nat) (r r' : Res) (hi : σ[i]? = some r)
    (hsz : w.heap.size ≤ w'.heap.size) (hos : w'.os = w.os) (htp : w'.tape = w.tape) (hout : w'.output = w.output)
    (hblk : ∀ k, k < w.heap.size → r.key ≠ some k → w'.heap[k]? = w.heap[k]?) (hr : r'.holds w')
    (hkey : ∀ k, r'.key = some k → r.key = some k ∨ w.heap.size ≤ k) : St w0 w' (σ.set i r') φ := by
  have hmem : r ∈ σ := List.mem_of_getElem? hi
  have hilt : i < σ.length := (List.getElem?_eq_some_iff.1 hi).1
  have hget : σ[i] = r := by rw [List.getElem?_eq_getElem hilt] at hi; simpa using hi
  have hd := h.dist
  have hne : ∀ (j : Nat) (hj : j < σ.length), j ≠ i → ∀ k, r.key = some k → σ[j].key ≠ some k := by
    intro j hj hji k hk hjk
    rcases Nat.lt_or_gt_of_ne hji with hlt | hgt
    · exact (List.pairwise_iff_getElem.1 hd j i hj hilt hlt) k hjk (by rw [hget]; exact hk)
    · exact (List.pairwise_iff_getElem.1 hd i j hilt hj hgt) k (by rw [hget]; exact hk) hjk
  have hoth : ∀ (j : Nat) (hj : j < σ.length), j ≠ i → σ[j].holds w' := by
    intro j hj hji
    refine σ[j].mono w w' (h.own _ (List.getElem_mem hj)) fun k hk => ?_
    exact hblk k (σ[j].lt w (h.own _ (List.getElem_mem hj)) k hk) fun hrk => hne j hj hji k hrk hk
  refine ⟨?_, ?_, ?_, ?_, ?_⟩
  · refine ⟨hos.trans h.base.os, htp.trans h.base.tape, hout.trans h.base.output, Nat.le_trans h.base.size hsz, fun k hk => ?_⟩
    rw [hblk k (Nat.lt_of_lt_of_le hk h.base.size) (fun hrk => by have := h.fresh r hmem k hrk; omega)]
    exact h.base.block k hk
  · intro s hs
    obtain ⟨j, hj, rfl⟩ := List.mem_iff_getElem.1 hs
    rw [List.getElem_set]
    split
    · exact hr
    · rename_i hne'; exact hoth j (by simpa using hj) (fun e => hne' e.symm)
  · intro s hs k hk
    rcases mem_set_cases hs with rfl | hs
    · rcases hkey k hk with h1 | h1
      · exact h.fresh r hmem k h1
      · exact Nat.le_trans h.base.size h1
    · exact h.fresh s hs k hk
  · refine List.pairwise_iff_getElem.2 fun a b ha hb hab => ?_
    simp only [List.length_set] at ha hb
    intro k hak hbk
    rw [List.getElem_set] at hak hbk
    split at hak
    · split at hbk
      · omega
      · rename_i hia hib
        subst hia
        have hlt := σ[b].lt w (h.own _ (List.getElem_mem hb)) k hbk
        rcases hkey k hak with h1 | h1
        · exact hne b hb (by omega) k h1 hbk
        · omega
    · split at hbk
      · rename_i hia hib
        subst hib
        have hlt := σ[a].lt w (h.own _ (List.getElem_mem ha)) k hak
        rcases hkey k hbk with h1 | h1
        · exact hne a ha (by omega) k h1 hak
        · omega
      · exact (List.pairwise_iff_getElem.1 hd a b ha hb hab) k hak hbk
  · intro p hp
    refine p.2.mono _ _ w w' (h.views p hp) hsz (fun k hk hX => hblk k hk fun hrk => hX (.inl ⟨r, hmem, hrk⟩)) ?_
    intro k hk hX
    rcases hX with ⟨s, hs, hsk⟩ | hX
    · rcases mem_set_cases hs with rfl | hs
      · rcases hkey k hsk with h1 | h1
        · exact .inl ⟨r, hmem, h1⟩
        · omega
      · exact .inl ⟨s, hs, hsk⟩
    · exact .inr hX

/-- Own resources may be let go (forgotten). -/
theorem St.dropRes {w0 : Ctx} {w : World} {σ σ' : List Res} {φ : List (Bool × VP)} (h : St w0 w σ φ) (hs : σ'.Sublist σ) : St w0 w σ' φ where
  base := h.base
  own r hr := h.own r (hs.subset hr)
  fresh r hr := h.fresh r (hs.subset hr)
  dist := h.dist.sublist hs
  views p hp := p.2.mono _ _ w w (h.views p hp) (Nat.le_refl _) (fun _ _ _ => rfl) (by
    intro k _ hX
    rcases hX with ⟨s, hs', hsk⟩ | hX
    · exact .inl ⟨s, hs.subset hs', hsk⟩
    · exact .inr hX)

/-! ## Judgements -/
section
variable (P : Program)
def JC (c : Code) (Q : Exit → Act → World → Prop) (w0 : Ctx) (σ : List Res) (φ : List (Bool × VP)) (fr : Fr) : Prop :=
  ∀ w, St w0 w σ φ → c.wp P Q (act fr) w
def JL (ops : Array Oper) (Q : Exit → Act → World → Prop) (w0 : Ctx) (σ : List Res) (φ : List (Bool × VP)) (l : List Oper) (fr : Fr) : Prop :=
  ∀ w, St w0 w σ φ → wpList P ops Q l (act fr) w
def JE (Q : Exit → Act → World → Prop) (e : Exit) (w0 : Ctx) (σ : List Res) (φ : List (Bool × VP)) (fr : Fr) : Prop :=
  ∀ w, St w0 w σ φ → Q e (act fr) w
/-- What follows a statement. -/
def Then (y : Code) (Q : Exit → Act → World → Prop) : Exit → Act → World → Prop := Exit.then (fun a w => y.wp P Q a w) Q
end
section
variable {P : Program} {Q : Exit → Act → World → Prop} {w0 : Ctx} {σ σ' : List Res} {φ φ' : List (Bool × VP)} {fr : Fr} {ops : Array Oper}

theorem JC_seq {x y : Code} (h : JC P x (Then P y Q) w0 σ φ fr) : JC P (.seq x y) Q w0 σ φ fr := fun w s => wp_seq (h w s)
theorem JC_region {id : Nat} {l : List Oper} (h : JL P l.toArray Q w0 σ φ l fr) : JC P (.region id l.toArray false) Q w0 σ φ fr :=
  fun w s => wp_region_lit (h w s)
theorem JC_skip (h : JE Q .normal w0 σ φ fr) : JC P .skip Q w0 σ φ fr := fun w s => wp_skip (h w s)
theorem JC_label {l : Nat} (h : JE Q .normal w0 σ φ fr) : JC P (.label l) Q w0 σ φ fr := fun w s => wp_label (h w s)
theorem JC_exit {id : Nat} (h : JE Q (.exit id) w0 σ φ fr) : JC P (.exit id) Q w0 σ φ fr := fun w s => wp_exit (h w s)
theorem JC_ret (h : JE Q .ret w0 σ φ fr) : JC P .ret Q w0 σ φ fr := fun w s => wp_ret (h w s)
theorem JC_block {id : Nat} {c : Code} (h : JC P c (Exit.inBlock id Q) w0 σ φ fr) : JC P (.block id c) Q w0 σ φ fr := fun w s => wp_block (h w s)
theorem JC_true {c : Operand} {x y : Code} (hc : ev fr c = .bool true) (h : JC P x Q w0 σ φ fr) : JC P (.cond c x y) Q w0 σ φ fr :=
  fun w s => wp_cond_true (by rw [act_eval]; exact hc) (h w s)
theorem JC_false {c : Operand} {x y : Code} (hc : ev fr c = .bool false) (h : JC P y Q w0 σ φ fr) : JC P (.cond c x y) Q w0 σ φ fr :=
  fun w s => wp_cond_false (by rw [act_eval]; exact hc) (h w s)
theorem JC_cond {c : Operand} {x y : Code} {b : Bool} (hc : ev fr c = .bool b) (ht : b = true → JC P x Q w0 σ φ fr) (hf : b = false → JC P y Q w0 σ φ fr) :
    JC P (.cond c x y) Q w0 σ φ fr :=
  fun w s => wp_cond_split (by rw [act_eval]; exact hc) (fun h => ht h w s) (fun h => hf h w s)
theorem JC_conv {c : Code} (h : ∀ w, St w0 w σ φ → St w0 w σ' φ') (k : JC P c Q w0 σ' φ' fr) : JC P c Q w0 σ φ fr := fun w s => k w (h w s)
theorem JE_conv {e : Exit} (h : ∀ w, St w0 w σ φ → St w0 w σ' φ') (k : JE Q e w0 σ' φ' fr) : JE Q e w0 σ φ fr := fun w s => k w (h w s)
theorem JL_conv {l : List Oper} (h : ∀ w, St w0 w σ φ → St w0 w σ' φ') (k : JL P ops Q w0 σ' φ' l fr) : JL P ops Q w0 σ φ l fr := fun w s => k w (h w s)
theorem JC_fact {c : Code} {p : Prop} (h : ∀ w, St w0 w σ φ → p) (k : p → JC P c Q w0 σ φ fr) : JC P c Q w0 σ φ fr := fun w s => k (h w s) w s
theorem JE_fact {e : Exit} {p : Prop} (h : ∀ w, St w0 w σ φ → p) (k : p → JE Q e w0 σ φ fr) : JE Q e w0 σ φ fr := fun w s => k (h w s) w s
theorem JL_fact {l : List Oper} {p : Prop} (h : ∀ w, St w0 w σ φ → p) (k : p → JL P ops Q w0 σ φ l fr) : JL P ops Q w0 σ φ l fr := fun w s => k (h w s) w s
theorem JC_open {c : Code} {α : Type} {s' : α → List Res} {f' : α → List (Bool × VP)} (h : ∀ w, St w0 w σ φ → ∃ x, St w0 w (s' x) (f' x)) (k : ∀ x, JC P c Q w0 (s' x) (f' x) fr) : JC P c Q w0 σ φ fr :=
  fun w s => (h w s).elim fun x hx => k x w hx
theorem JE_open {e : Exit} {α : Type} {s' : α → List Res} {f' : α → List (Bool × VP)} (h : ∀ w, St w0 w σ φ → ∃ x, St w0 w (s' x) (f' x)) (k : ∀ x, JE Q e w0 (s' x) (f' x) fr) : JE Q e w0 σ φ fr :=
  fun w s => (h w s).elim fun x hx => k x w hx
theorem JL_open {l : List Oper} {α : Type} {s' : α → List Res} {f' : α → List (Bool × VP)} (h : ∀ w, St w0 w σ φ → ∃ x, St w0 w (s' x) (f' x)) (k : ∀ x, JL P ops Q w0 (s' x) (f' x) l fr) : JL P ops Q w0 σ φ l fr :=
  fun w s => (h w s).elim fun x hx => k x w hx

theorem JL_nil (h : JE Q .normal w0 σ φ fr) : JL P ops Q w0 σ φ [] fr := fun w s => wpList_nil (h w s)
theorem JE_then {y : Code} (h : JC P y Q w0 σ φ fr) : JE (Then P y Q) .normal w0 σ φ fr := fun w s => h w s
theorem JL_done {y : Code} (h : JC P y Q w0 σ φ fr) : JL P ops (Then P y Q) w0 σ φ [] fr := fun w s => wpList_nil (h w s)
theorem JE_then_exit {y : Code} {id : Nat} (h : JE Q (.exit id) w0 σ φ fr) : JE (Then P y Q) (.exit id) w0 σ φ fr := fun w s => h w s
theorem JE_then_ret {y : Code} (h : JE Q .ret w0 σ φ fr) : JE (Then P y Q) .ret w0 σ φ fr := fun w s => h w s
theorem JE_block_normal {id : Nat} (h : JE Q .normal w0 σ φ fr) : JE (Exit.inBlock id Q) .normal w0 σ φ fr := fun w s => h w s
theorem JE_block_ret {id : Nat} (h : JE Q .ret w0 σ φ fr) : JE (Exit.inBlock id Q) .ret w0 σ φ fr := fun w s => h w s
theorem JE_block_exit {id : Nat} (h : JE Q .normal w0 σ φ fr) : JE (Exit.inBlock id Q) (.exit id) w0 σ φ fr := fun w s => by
  show (if id = id then Q .normal (act fr) w else Q (.exit id) (act fr) w)
  rw [if_pos rfl]; exact h w s
theorem JE_block_other {id id' : Nat} (hne : (id' == id) = false) (h : JE Q (.exit id') w0 σ φ fr) : JE (Exit.inBlock id Q) (.exit id') w0 σ φ fr := fun w s => by
  show (if id' = id then Q .normal (act fr) w else Q (.exit id') (act fr) w)
  rw [if_neg (by simpa using hne)]; exact h w s

/-! ## Loops: a measure of one's own -/
theorem wp_loop_n {c : Code} (I : Nat → Act → World → Prop) {n : Nat} {a : Act} {w : World} (h0 : I n a w)
    (round : ∀ n a w, I n a w → c.wp P (Exit.then (fun a' w' => ∃ m, m < n ∧ I m a' w') Q) a w) : (Code.loop c).wp P Q a w := by
  intro b k cs
  have key : ∀ n a w, I n a w →
      ∃ e a' w', Q e a' w' ∧ Arrives P (lone (b.at a (.code c :: .inLoop c :: k)) cs w) b k cs e a' w' := by
    intro n
    induction n using Nat.strongRecOn with
    | _ n ih =>
      intro a w hI
      obtain ⟨e, a₁, w₁, hq, harr⟩ := round n a w hI b (.inLoop c :: k) cs
      cases e with
      | normal =>
        obtain ⟨m, hlt, hI₁⟩ := hq
        obtain ⟨e₂, a₂, w₂, hq₂, harr₂⟩ := ih m hlt a₁ w₁ hI₁
        exact ⟨e₂, a₂, w₂, hq₂, .of_steps (Steps.trans harr (.one step_inLoop)) harr₂⟩
      | exit id => exact ⟨_, a₁, w₁, hq, .pass (x := .inLoop c) rfl (fun _ _ => .inl (by simp)) harr⟩
      | goto l => exact ⟨_, a₁, w₁, hq, .pass (x := .inLoop c) rfl (fun _ _ => .inl (by simp)) harr⟩
      | ret => exact ⟨_, a₁, w₁, hq, .pass (x := .inLoop c) rfl (fun _ _ => .inl (by simp)) harr⟩
      | panic ch => exact ⟨_, a₁, w₁, hq, .pass (x := .inLoop c) rfl (fun _ _ => .inl (by simp)) harr⟩
      | outgrown => exact ⟨_, a₁, w₁, hq, .pass (x := .inLoop c) rfl (fun _ _ => .inl (by simp)) harr⟩
  obtain ⟨e, a', w', hq, harr⟩ := key _ a w h0
  exact ⟨e, a', w', hq, .of_steps (.one step_loop) harr⟩

/-- What a round hands on: a state i of the loop, with fewer rounds to come. -/
def Next {ι : Type} (w0 : Ctx) (C : ι → Prop) (μ : ι → Nat) (s : ι → List Res) (f : ι → List (Bool × VP)) (F : ι → Fr) (n : Nat)
    (Q : Exit → Act → World → Prop) : Exit → Act → World → Prop :=
  Exit.then (fun a' w' => ∃ m, m < n ∧ ∃ i, m = μ i ∧ C i ∧ a' = act (F i) ∧ St w0 w' (s i) (f i)) Q

theorem JC_loop {c : Code} (ι : Type) (C : ι → Prop) (μ : ι → Nat) (s : ι → List Res) (f : ι → List (Bool × VP)) (F : ι → Fr) (i0 : ι)
    (hfr : fr = F i0) (h0 : C i0) (hst : ∀ w, St w0 w σ φ → St w0 w (s i0) (f i0))
    (round : ∀ i, C i → JC P c (Next w0 C μ s f F (μ i) Q) w0 (s i) (f i) (F i)) : JC P (.loop c) Q w0 σ φ fr := by
  intro w st
  refine wp_loop_n (fun n a w => ∃ i, n = μ i ∧ C i ∧ a = act (F i) ∧ St w0 w (s i) (f i)) ⟨i0, rfl, h0, by rw [hfr], hst w st⟩ ?_
  rintro n a w ⟨i, rfl, hC, rfl, hs⟩
  exact round i hC w hs
theorem JE_next {ι : Type} {C : ι → Prop} {μ : ι → Nat} {s : ι → List Res} {f : ι → List (Bool × VP)} {F : ι → Fr} {n : Nat} (i : ι)
    (hfr : fr = F i) (hC : C i) (hμ : μ i < n) (hst : ∀ w, St w0 w σ φ → St w0 w (s i) (f i)) : JE (Next w0 C μ s f F n Q) .normal w0 σ φ fr :=
  fun w st => ⟨_, hμ, i, rfl, hC, by rw [hfr], hst w st⟩
theorem JE_next_exit {ι : Type} {C : ι → Prop} {μ : ι → Nat} {s : ι → List Res} {f : ι → List (Bool × VP)} {F : ι → Fr} {n : Nat} {id : Nat}
    (h : JE Q (.exit id) w0 σ φ fr) : JE (Next w0 C μ s f F n Q) (.exit id) w0 σ φ fr := fun w st => h w st
theorem JE_next_ret {ι : Type} {C : ι → Prop} {μ : ι → Nat} {s : ι → List Res} {f : ι → List (Bool × VP)} {F : ι → Fr} {n : Nat}
    (h : JE Q .ret w0 σ φ fr) : JE (Next w0 C μ s f F n Q) .ret w0 σ φ fr := fun w st => h w st

/-- Ways that meet again: a statement x with a middle condition. -/
def Mid {ι : Type} (w0 : Ctx) (C : ι → Prop) (s : ι → List Res) (f : ι → List (Bool × VP)) (F : ι → Fr) (Q : Exit → Act → World → Prop) : Exit → Act → World → Prop :=
  Exit.then (fun a' w' => ∃ i, C i ∧ a' = act (F i) ∧ St w0 w' (s i) (f i)) Q
theorem JC_cut {x y : Code} (ι : Type) (C : ι → Prop) (s : ι → List Res) (f : ι → List (Bool × VP)) (F : ι → Fr)
    (h1 : JC P x (Mid w0 C s f F Q) w0 σ φ fr) (h2 : ∀ i, C i → JC P y Q w0 (s i) (f i) (F i)) : JC P (.seq x y) Q w0 σ φ fr := by
  intro w st
  refine wp_seq (wp_mono (h1 w st) ?_)
  intro e a w' h
  cases e with
  | normal =>
    obtain ⟨i, hC, rfl, hs⟩ := h
    exact h2 i hC w' hs
  | _ => exact h
theorem JE_mid {ι : Type} {C : ι → Prop} {s : ι → List Res} {f : ι → List (Bool × VP)} {F : ι → Fr} (i : ι)
    (hfr : fr = F i) (hC : C i) (hst : ∀ w, St w0 w σ φ → St w0 w (s i) (f i)) : JE (Mid w0 C s f F Q) .normal w0 σ φ fr :=
  fun w st => ⟨i, hC, by rw [hfr], hst w st⟩
theorem JE_mid_exit {ι : Type} {C : ι → Prop} {s : ι → List Res} {f : ι → List (Bool × VP)} {F : ι → Fr} {id : Nat}
    (h : JE Q (.exit id) w0 σ φ fr) : JE (Mid w0 C s f F Q) (.exit id) w0 σ φ fr := fun w st => h w st
theorem JE_mid_ret {ι : Type} {C : ι → Prop} {s : ι → List Res} {f : ι → List (Bool × VP)} {F : ι → Fr}
    (h : JE Q .ret w0 σ φ fr) : JE (Mid w0 C s f F Q) .ret w0 σ φ fr := fun w st => h w st
end

/-! ## Contracts -/
/-- Results in fresh memory. -/
def PostF (w : World) (Post : Value → List VP → Prop) (e : Ending) (w' : World) : Prop :=
  ∃ v φo, e = .returned v ∧ Post v φo ∧ Below w.heap.size w w' ∧ ∀ p ∈ φo, p.holds (fun k => k < w.heap.size) w'
def ConF (P : Program) (f : FuncId) (args : List Value) (φin : List VP) (Post : Value → List VP → Prop) : Prop :=
  ∀ w, (∀ p ∈ φin, p.holds (fun _ => False) w) → Calls P f args.toArray w (PostF w Post)
/-- Results may share memory with the arguments. -/
def PostA (w : World) (X : Nat → Prop) (Post : Value → List VP → Prop) (e : Ending) (w' : World) : Prop :=
  ∃ v φo, e = .returned v ∧ Post v φo ∧ Below w.heap.size w w' ∧ ∀ p ∈ φo, p.holds X w'
def ConA (P : Program) (f : FuncId) (args : List Value) (φin : List VP) (Post : Value → List VP → Prop) : Prop :=
  ∀ w (X : Nat → Prop), (∀ k, X k → k < w.heap.size) → (∀ p ∈ φin, p.holds X w) → Calls P f args.toArray w (PostA w X Post)
theorem ConF.conA {P : Program} {f : FuncId} {args : List Value} {φin : List VP} {Post : Value → List VP → Prop} (h : ConF P f args φin Post) : ConA P f args φin Post := by
  intro w X hX hin
  refine (h w fun p hp => p.mono _ _ w w (hin p hp) (Nat.le_refl _) (fun _ _ _ => rfl) (fun _ _ h => h.elim)).mono ?_
  rintro e w' ⟨v, φo, rfl, hP, hb, hv⟩
  exact ⟨v, φo, rfl, hP, hb, fun p hp => p.mono _ _ w' w' (hv p hp) (Nat.le_refl _) (fun _ _ _ => rfl) (fun k _ h => hX k h)⟩

/-- Everything old. -/
def allOld (w : World) : Ctx := ⟨w, fun k => k < w.heap.size, fun _ h => h⟩
theorem St.start {w : World} {φin : List VP} (h : ∀ p ∈ φin, p.holds (fun _ => False) w) : St (allOld w) w [] (φin.map fun p => (false, p)) where
  base := Below.refl _ _
  own r hr := by cases hr
  fresh r hr := by cases hr
  dist := List.Pairwise.nil
  views p hp := by
    obtain ⟨q, hq, rfl⟩ := List.mem_map.1 hp
    refine q.mono _ _ w w (h q hq) (Nat.le_refl _) (fun _ _ _ => rfl) ?_
    intro k _ hX
    rcases hX with ⟨r, hr, _⟩ | hX
    · cases hr
    · exact absurd hX.1 (by simp)
theorem St.startA {w : World} {X : Nat → Prop} (hX : ∀ k, X k → k < w.heap.size) {φin : List VP} (h : ∀ p ∈ φin, p.holds X w) : St ⟨w, X, hX⟩ w [] (φin.map fun p => (true, p)) where
  base := Below.refl _ _
  own r hr := by cases hr
  fresh r hr := by cases hr
  dist := List.Pairwise.nil
  views p hp := by
    obtain ⟨q, hq, rfl⟩ := List.mem_map.1 hp
    refine q.mono _ _ w w (h q hq) (Nat.le_refl _) (fun _ _ _ => rfl) ?_
    intro k _ hk
    rcases hk with ⟨r, hr, _⟩ | hk
    · cases hr
    · exact hk.2
/-- What the end of a function owes: its views avoid Y. -/
def PostY (c : Ctx) (Post : Value → List VP → Prop) (e : Ending) (w' : World) : Prop :=
  ∃ v φo, e = .returned v ∧ Post v φo ∧ Below c.w.heap.size c.w w' ∧ ∀ p ∈ φo, p.holds c.Y w'
theorem ConF_of {P : Program} {f : FuncId} {fn : Func} {c : Code} {args : List Value} {φin : List VP} {Post : Value → List VP → Prop}
    (hf : P.funcs[f]? = some fn) (hb : fn.body = some c) (n : Nat) (b : List Value) (hfr : args ++ List.replicate (fn.ntmps - args.length) undef = b) (hn : b.length = n)
    (h : ∀ w0, JC P c (bodyPost P fn (PostY w0 Post)) w0 [] (φin.map fun p => (false, p)) ⟨n, [], b⟩) : ConF P f args φin Post := by
  intro w hin
  refine calls_of_wp hf hb ?_
  have he : (⟨args.toArray ++ Array.replicate (fn.ntmps - args.toArray.size) undef, []⟩ : Act) = act ⟨n, [], b⟩ := by
    rw [← hn, act_start, ← hfr]; simp
  rw [he]
  exact h (allOld w) w (St.start hin)
theorem ConA_of {P : Program} {f : FuncId} {fn : Func} {c : Code} {args : List Value} {φin : List VP} {Post : Value → List VP → Prop}
    (hf : P.funcs[f]? = some fn) (hb : fn.body = some c) (n : Nat) (b : List Value) (hfr : args ++ List.replicate (fn.ntmps - args.length) undef = b) (hn : b.length = n)
    (h : ∀ w0, JC P c (bodyPost P fn (PostY w0 Post)) w0 [] (φin.map fun p => (true, p)) ⟨n, [], b⟩) : ConA P f args φin Post := by
  intro w X hX hin
  refine calls_of_wp hf hb ?_
  have he : (⟨args.toArray ++ Array.replicate (fn.ntmps - args.toArray.size) undef, []⟩ : Act) = act ⟨n, [], b⟩ := by
    rw [← hn, act_start, ← hfr]; simp
  rw [he]
  exact h ⟨w, X, hX⟩ w (St.startA hX hin)

theorem bodyPost_of {P : Program} {fn : Func} {R : Ending → World → Prop} {fr : Fr} {w : World} {v : Value}
    (hr : (results fn (act fr).tmps).run P w = .ok v w) (hR : R (.returned v) w) : bodyPost P fn R .ret (act fr) w := ⟨rfl, v, hr, hR⟩
theorem bodyPost_of' {P : Program} {fn : Func} {R : Ending → World → Prop} {fr : Fr} {w : World} {v : Value}
    (hr : (results fn (act fr).tmps).run P w = .ok v w) (hR : R (.returned v) w) : bodyPost P fn R .normal (act fr) w := ⟨rfl, v, hr, hR⟩

section
variable {w0 : Ctx} {σ : List Res} {φ : List (Bool × VP)} {Post : Value → List VP → Prop}
theorem PostY_of {w : World} {v : Value} (s : St w0 w σ φ) (φo : List VP) (hP : Post v φo) (hv : ∀ p ∈ φo, (true, p) ∈ φ) : PostY w0 Post (.returned v) w :=
  ⟨v, φo, rfl, hP, s.base, fun p hp => p.mono _ _ w w (s.views _ (hv p hp)) (Nat.le_refl _) (fun _ _ _ => rfl) (fun _ _ h => .inr ⟨rfl, h⟩)⟩
end
end Go.Fw

/-! The program logic's rules for single operations that read and write slots alone. -/
namespace Go.Fw
open Go Go.RowKit

/-! ## Looking things up, by unfolding -/
def LkL : List Value → Nat → Value → Prop
  | [], _, u => u = undef
  | v :: _, 0, u => u = v
  | _ :: l, n + 1, u => LkL l n u
def LkP : List (Nat × Value) → List Value → Nat → Value → Prop
  | [], b, t, u => LkL b t u
  | (d, v) :: p, b, t, u => bif Nat.beq d t then u = v else LkP p b t u
def Lk (fr : Fr) (t : Nat) (u : Value) : Prop := bif Nat.blt t fr.n then LkP fr.pend fr.base t u else u = undef
def Ev (fr : Fr) : Operand → Value → Prop
  | .tmp t, u => Lk fr t u
  | .const c, u => u = c
  | .global g, u => u = .pointer (some ⟨g, 0, none⟩)
  | .func f, u => u = .func (.func f) #[] #[]
def Nth {α : Type} : List α → Nat → α → Prop
  | [], _, _ => False
  | v :: _, 0, u => u = v
  | _ :: l, n + 1, u => Nth l n u
theorem LkL.eq : ∀ {l : List Value} {t : Nat} {u : Value}, LkL l t u → lookL l t = u
  | [], _, _, h => h.symm
  | _ :: _, 0, _, h => h.symm
  | _ :: l, n + 1, _, h => LkL.eq (l := l) (t := n) h
theorem LkP.eq : ∀ {p : List (Nat × Value)} {b : List Value} {t : Nat} {u : Value}, LkP p b t u → lkP p b t = u
  | [], _, _, _, h => LkL.eq h
  | (d, v) :: p, b, t, u, h => by
    rw [lkP]
    rw [LkP] at h
    cases hb : Nat.beq d t with
    | true => rw [hb] at h; exact (show u = v from h).symm
    | false => rw [hb] at h; exact LkP.eq (show LkP p b t u from h)
theorem Lk.eq {fr : Fr} {t : Nat} {u : Value} (h : Lk fr t u) : look fr t = u := by
  unfold look
  unfold Lk at h
  cases hb : Nat.blt t fr.n with
  | true => rw [hb] at h; exact LkP.eq h
  | false => rw [hb] at h; exact (show u = undef from h).symm
theorem Ev.eq {fr : Fr} {x : Operand} {u : Value} (h : Ev fr x u) : ev fr x = u := by
  cases x with
  | tmp t => exact Lk.eq h
  | _ => exact (show u = _ from h).symm
theorem Nth.get {α : Type} : ∀ {l : List α} {n : Nat} {u : α}, Nth l n u → l[n]? = some u
  | [], _, _, h => h.elim
  | _ :: _, 0, _, h => by rw [show _ = _ from h]; rfl
  | _ :: l, n + 1, _, h => by simpa using Nth.get (l := l) (n := n) h
theorem Nth.mem {α : Type} {l : List α} {n : Nat} {u : α} (h : Nth l n u) : u ∈ l := List.mem_of_getElem? h.get
def updL {α : Type} : List α → Nat → α → List α
  | [], _, _ => []
  | _ :: l, 0, x => x :: l
  | v :: l, n + 1, x => v :: updL l n x
theorem updL_set {α : Type} : ∀ (l : List α) (t : Nat) (x : α), updL l t x = l.set t x := by
  intro l
  induction l with
  | nil => intro t x; simp [updL]
  | cons v l ih => intro t x; cases t <;> simp [updL, ih]

/-! ## Facts on a program's tables, each closed by the kernel -/
def aggDesc : TypeDesc → Bool
  | .struct _ | .array _ _ => true
  | _ => false
def tyOf (P : Program) (T : TypeId) : Option (Bool × Nat) :=
  match P.underlying T, P.info? T with
  | some d, some i => some (aggDesc d, i.size)
  | _, _ => none
def zeroOf (P : Program) (T : TypeId) : Option (List Value) := ((P.info? T).bind (·.zero)).map (·.cells.toList)
def slOf (P : Program) (t : TypeId) : Option (TypeId × Nat × Nat × List Value) :=
  match P.underlying t with
  | some (.slice e) => match P.info? e with
    | some i => i.zero.map fun z => (e, i.size, i.bytes, z.cells.toList)
    | none => none
  | _ => none
def fOf (P : Program) (s : TypeId) (f : Nat) : Option Nat :=
  match P.underlying s with
  | some (.struct fields) => match fields[f]? with
    | some fd => match P.info? fd.type with
      | some i => if i.size = 0 then none else some fd.offset
      | none => none
    | none => none
  | _ => none
def intTy (P : Program) (t : TypeId) : Option IntKind :=
  match P.underlying t with
  | some (.int k) => some k
  | _ => none
def callable (P : Program) (f : FuncId) : Bool :=
  match P.funcs[f]? with
  | some fn => fn.body.isSome && !(fn.name == "runtime.NumGoroutine")
  | none => false
theorem tyOf_spec {P : Program} {T : TypeId} {g : Bool} {n : Nat} (h : tyOf P T = some (g, n)) : ∃ d i, P.underlying T = some d ∧ P.info? T = some i ∧ aggDesc d = g ∧ i.size = n := by
  unfold tyOf at h
  split at h
  · rename_i d i h1 h2; simp at h; exact ⟨d, i, h1, h2, h.1, h.2⟩
  · cases h
theorem run_isAgg {P : Program} {T : TypeId} {d : TypeDesc} (h : P.underlying T = some d) (w : World) : (isAgg T).run P w = .ok (aggDesc d) w := by
  simp only [isAgg, Sem.run_bind, run_underlying h, Result.andThen_ok]
  cases d <;> rfl
theorem slOf_spec {P : Program} {t e : TypeId} {sz by' : Nat} {z : List Value} (h : slOf P t = some (e, sz, by', z)) :
    ∃ i zv, P.underlying t = some (.slice e) ∧ P.info? e = some i ∧ i.size = sz ∧ i.bytes = by' ∧ i.zero = some zv ∧ zv.cells.toList = z := by
  unfold slOf at h
  split at h
  · rename_i e' h1
    split at h
    · rename_i i h2
      cases hz : i.zero with
      | none => simp [hz] at h
      | some zv =>
        simp [hz] at h
        obtain ⟨rfl, rfl, rfl, rfl⟩ := h
        exact ⟨i, zv, h1, h2, rfl, rfl, hz, rfl⟩
    · cases h
  · cases h

/-! ## One operation -/
section
variable {P : Program} {Q : Exit → Act → World → Prop} {w0 : Ctx} {σ σ' : List Res} {φ φ' : List (Bool × VP)} {fr : Fr} {ops : Array Oper} {rest : List Oper}
  {d : Nat} {ty : TypeId} {pos : String} {aft : Array Edge}

/-- The frame, the resources and the views written anew. -/
theorem JL_done_norm {y : Code} (fr' : Fr) (σ' : List Res) (φ' : List (Bool × VP)) (h1 : fr' = fr) (h2 : σ' = σ) (h3 : φ' = φ) (h : JC P y Q w0 σ' φ' fr') : JL P ops (Then P y Q) w0 σ φ [] fr := by
  subst h1 h2 h3; exact JL_done h
theorem JL_nil_norm (fr' : Fr) (σ' : List Res) (φ' : List (Bool × VP)) (h1 : fr' = fr) (h2 : σ' = σ) (h3 : φ' = φ) (h : JE Q .normal w0 σ' φ' fr') : JL P ops Q w0 σ φ [] fr := by
  subst h1 h2 h3; exact JL_nil h
theorem JL_norm {l : List Oper} (fr' : Fr) (σ' : List Res) (φ' : List (Bool × VP)) (h1 : fr' = fr) (h2 : σ' = σ) (h3 : φ' = φ) (h : JL P ops Q w0 σ' φ' l fr') : JL P ops Q w0 σ φ l fr := by
  subst h1 h2 h3; exact h

theorem wpList_run {o : Oper} {w w' : World} {v : Value} (hg : o.guard = none) (hd : o.dst = some d) (hrun : (execOp (ev fr) o).run P w = .ok (.value v) w')
    (k : wpList P ops Q rest (act (upd fr d v)) w') : wpList P ops Q (o :: rest) (act fr) w := by
  refine wpList_plain hg fun K hK => ?_
  unfold Oper.wp
  rw [act_eval_fun, hrun]
  show K ((act fr).put o.dst v) w'
  rw [hd, act_put]
  exact hK _ _ k
theorem wpList_run0 {o : Oper} {w w' : World} (hg : o.guard = none) (hd : o.dst = none) (hrun : (execOp (ev fr) o).run P w = .ok .skip w')
    (k : wpList P ops Q rest (act fr) w') : wpList P ops Q (o :: rest) (act fr) w := by
  refine wpList_plain hg fun K hK => ?_
  unfold Oper.wp
  rw [act_eval_fun, hrun]
  show K ((act fr).put o.dst undef) w'
  rw [hd, act_put_none]
  exact hK _ _ k
theorem JL_pure {op : Op} (v : Value) (hrun : ∀ w, (execOp (ev fr) ⟨some d, op, ty, pos, aft, none⟩).run P w = .ok (.value v) w)
    (k : JL P ops Q w0 σ φ rest (upd fr d v)) : JL P ops Q w0 σ φ (⟨some d, op, ty, pos, aft, none⟩ :: rest) fr :=
  fun w s => wpList_run rfl rfl (hrun w) (k w s)
theorem JL_pureSt {op : Op} (v : Value) (hrun : ∀ w, St w0 w σ φ → (execOp (ev fr) ⟨some d, op, ty, pos, aft, none⟩).run P w = .ok (.value v) w)
    (k : JL P ops Q w0 σ φ rest (upd fr d v)) : JL P ops Q w0 σ φ (⟨some d, op, ty, pos, aft, none⟩ :: rest) fr :=
  fun w s => wpList_run rfl rfl (hrun w s) (k w s)

theorem JL_move {x : Operand} {v : Value} (hx : Ev fr x v) (k : JL P ops Q w0 σ φ rest (upd fr d v)) : JL P ops Q w0 σ φ (⟨some d, .move x, ty, pos, aft, none⟩ :: rest) fr :=
  JL_pure v (fun w => by simp [execOp, hx.eq]) k
theorem JL_assign {x : Operand} {v : Value} (hx : Ev fr x v) (k : JL P ops Q w0 σ φ rest (upd fr d v)) : JL P ops Q w0 σ φ (⟨some d, .assign x, ty, pos, aft, none⟩ :: rest) fr :=
  JL_pure v (fun w => by simp [execOp, hx.eq]) k
theorem JL_pick {c x y : Operand} {b : Bool} {u v : Value} (hc : Ev fr c (.bool b)) (hx : Ev fr x u) (hy : Ev fr y v) (k : JL P ops Q w0 σ φ rest (upd fr d (bif b then u else v))) :
    JL P ops Q w0 σ φ (⟨some d, .pick c x y, ty, pos, aft, none⟩ :: rest) fr :=
  JL_pure _ (fun w => by cases b <;> simp [execOp, hx.eq, hy.eq, hc.eq, asBool]) k
theorem JL_pick_t {c x y : Operand} {u : Value} (hc : Ev fr c (.bool true)) (hx : Ev fr x u) (k : JL P ops Q w0 σ φ rest (upd fr d u)) :
    JL P ops Q w0 σ φ (⟨some d, .pick c x y, ty, pos, aft, none⟩ :: rest) fr :=
  JL_pure _ (fun w => by simp [execOp, hx.eq, hc.eq, asBool]) k
theorem JL_pick_f {c x y : Operand} {u : Value} (hc : Ev fr c (.bool false)) (hx : Ev fr y u) (k : JL P ops Q w0 σ φ rest (upd fr d u)) :
    JL P ops Q w0 σ φ (⟨some d, .pick c x y, ty, pos, aft, none⟩ :: rest) fr :=
  JL_pure _ (fun w => by simp [execOp, hx.eq, hc.eq, asBool]) k

/-! ### Guards -/
theorem lt_of_bool {t : Nat} {b : Bool} (h : Lk fr t (.bool b)) : t < fr.n := by
  unfold Lk at h
  cases hb : Nat.blt t fr.n with
  | true => exact blt_lt hb
  | false => rw [hb] at h; exact absurd (show Value.bool b = undef from h) (by intro h'; cases h')
theorem wanted_of {o : Oper} {j t : Nat} {want b : Bool} (hg : o.guard = some (j, want)) (hj : (ops[j]?).bind (·.dst) = some t) (hb : Lk fr t (.bool b)) :
    Region.wanted o (yielded ops (act fr).tmps) = (b == want) := by
  have hlt := lt_of_bool hb
  have h1 : (act fr).tmps[t]? = some (.bool b) := by rw [look_get? hlt, hb.eq]
  simp only [Region.wanted, hg, yielded, hj, Option.bind_some, h1]
  cases b <;> cases want <;> rfl
theorem JL_guard_yes {op : Op} {dst : Option Nat} {j t : Nat} {want : Bool} (hj : (ops[j]?).bind (·.dst) = some t) (hb : Lk fr t (.bool want))
    (k : JL P ops Q w0 σ φ (⟨dst, op, ty, pos, aft, none⟩ :: rest) fr) : JL P ops Q w0 σ φ (⟨dst, op, ty, pos, aft, some (j, want)⟩ :: rest) fr := by
  intro w s
  have h := k w s
  have hw := wanted_of (o := ⟨dst, op, ty, pos, aft, some (j, want)⟩) (ops := ops) rfl hj hb
  unfold wpList at h ⊢
  rw [if_pos (by rw [hw]; simp)]
  rw [if_pos (by simp [Region.wanted])] at h
  exact h
theorem JL_guard_no {op : Op} {j t : Nat} {want : Bool} (hj : (ops[j]?).bind (·.dst) = some t) (hb : Lk fr t (.bool (!want)))
    (k : JL P ops Q w0 σ φ rest (upd fr d undef)) : JL P ops Q w0 σ φ (⟨some d, op, ty, pos, aft, some (j, want)⟩ :: rest) fr := by
  intro w s
  have h := k w s
  have hw := wanted_of (o := ⟨some d, op, ty, pos, aft, some (j, want)⟩) (ops := ops) rfl hj hb
  unfold wpList
  rw [if_neg (by rw [hw]; simp)]
  rw [act_put]
  exact h

/-! ### Numbers -/
theorem ev2 {x y : Operand} {u v : Value} (hx : Ev fr x u) (hy : Ev fr y v) : ev fr x = u ∧ ev fr y = v := ⟨hx.eq, hy.eq⟩
section
variable {t t' : TypeId} {x y : Operand} {k k' : IntKind} {a b : Int}
theorem JL_add (hx : Ev fr x (.int k a)) (hy : Ev fr y (.int k b)) (n : JL P ops Q w0 σ φ rest (upd fr d (.int k (k.wrap (a + b))))) : JL P ops Q w0 σ φ (⟨some d, .binOp .add t x y t', ty, pos, aft, none⟩ :: rest) fr :=
  JL_pure _ (fun w => by simp [execOp, hx.eq, hy.eq, binOp, eqGuard, Op.intArith]) n
theorem JL_sub (hx : Ev fr x (.int k a)) (hy : Ev fr y (.int k b)) (n : JL P ops Q w0 σ φ rest (upd fr d (.int k (k.wrap (a - b))))) : JL P ops Q w0 σ φ (⟨some d, .binOp .sub t x y t', ty, pos, aft, none⟩ :: rest) fr :=
  JL_pure _ (fun w => by simp [execOp, hx.eq, hy.eq, binOp, eqGuard, Op.intArith]) n
theorem JL_mul (hx : Ev fr x (.int k a)) (hy : Ev fr y (.int k b)) (n : JL P ops Q w0 σ φ rest (upd fr d (.int k (k.wrap (a * b))))) : JL P ops Q w0 σ φ (⟨some d, .binOp .mul t x y t', ty, pos, aft, none⟩ :: rest) fr :=
  JL_pure _ (fun w => by simp [execOp, hx.eq, hy.eq, binOp, eqGuard, Op.intArith]) n
theorem JL_quo (hx : Ev fr x (.int k a)) (hy : Ev fr y (.int k b)) (hb : b ≠ 0) (n : JL P ops Q w0 σ φ rest (upd fr d (.int k (k.wrap (a.tdiv b))))) : JL P ops Q w0 σ φ (⟨some d, .binOp .quo t x y t', ty, pos, aft, none⟩ :: rest) fr :=
  JL_pure _ (fun w => by simp [execOp, hx.eq, hy.eq, binOp, eqGuard, Op.intDiv, hb]) n
theorem JL_rem (hx : Ev fr x (.int k a)) (hy : Ev fr y (.int k b)) (hb : b ≠ 0) (n : JL P ops Q w0 σ φ rest (upd fr d (.int k (a.tmod b)))) : JL P ops Q w0 σ φ (⟨some d, .binOp .rem t x y t', ty, pos, aft, none⟩ :: rest) fr :=
  JL_pure _ (fun w => by simp [execOp, hx.eq, hy.eq, binOp, eqGuard, Op.intDiv, hb]) n
/-- The same, the result named: c is what the wrap comes to. -/
theorem JL_add_to {c : Int} (hx : Ev fr x (.int k a)) (hy : Ev fr y (.int k b)) (hc : k.wrap (a + b) = c) (n : JL P ops Q w0 σ φ rest (upd fr d (.int k c))) : JL P ops Q w0 σ φ (⟨some d, .binOp .add t x y t', ty, pos, aft, none⟩ :: rest) fr := JL_add hx hy (hc ▸ n)
theorem JL_sub_to {c : Int} (hx : Ev fr x (.int k a)) (hy : Ev fr y (.int k b)) (hc : k.wrap (a - b) = c) (n : JL P ops Q w0 σ φ rest (upd fr d (.int k c))) : JL P ops Q w0 σ φ (⟨some d, .binOp .sub t x y t', ty, pos, aft, none⟩ :: rest) fr := JL_sub hx hy (hc ▸ n)
theorem JL_mul_to {c : Int} (hx : Ev fr x (.int k a)) (hy : Ev fr y (.int k b)) (hc : k.wrap (a * b) = c) (n : JL P ops Q w0 σ φ rest (upd fr d (.int k c))) : JL P ops Q w0 σ φ (⟨some d, .binOp .mul t x y t', ty, pos, aft, none⟩ :: rest) fr := JL_mul hx hy (hc ▸ n)
theorem JL_quo_to {c : Int} (hx : Ev fr x (.int k a)) (hy : Ev fr y (.int k b)) (hb : b ≠ 0) (hc : k.wrap (a.tdiv b) = c) (n : JL P ops Q w0 σ φ rest (upd fr d (.int k c))) : JL P ops Q w0 σ φ (⟨some d, .binOp .quo t x y t', ty, pos, aft, none⟩ :: rest) fr := JL_quo hx hy hb (hc ▸ n)
theorem JL_rem_to {c : Int} (hx : Ev fr x (.int k a)) (hy : Ev fr y (.int k b)) (hb : b ≠ 0) (hc : a.tmod b = c) (n : JL P ops Q w0 σ φ rest (upd fr d (.int k c))) : JL P ops Q w0 σ φ (⟨some d, .binOp .rem t x y t', ty, pos, aft, none⟩ :: rest) fr := JL_rem hx hy hb (hc ▸ n)

theorem JL_lss (hx : Ev fr x (.int k a)) (hy : Ev fr y (.int k b)) (n : JL P ops Q w0 σ φ rest (upd fr d (.bool (decide (a < b))))) : JL P ops Q w0 σ φ (⟨some d, .binOp .lss t x y t', ty, pos, aft, none⟩ :: rest) fr :=
  JL_pure _ (fun w => by simp [execOp, hx.eq, hy.eq, binOp, eqGuard, Op.intCmp]) n
theorem JL_leq (hx : Ev fr x (.int k a)) (hy : Ev fr y (.int k b)) (n : JL P ops Q w0 σ φ rest (upd fr d (.bool (decide (a ≤ b))))) : JL P ops Q w0 σ φ (⟨some d, .binOp .leq t x y t', ty, pos, aft, none⟩ :: rest) fr :=
  JL_pure _ (fun w => by simp [execOp, hx.eq, hy.eq, binOp, eqGuard, Op.intCmp]) n
theorem JL_gtr (hx : Ev fr x (.int k a)) (hy : Ev fr y (.int k b)) (n : JL P ops Q w0 σ φ rest (upd fr d (.bool (decide (b < a))))) : JL P ops Q w0 σ φ (⟨some d, .binOp .gtr t x y t', ty, pos, aft, none⟩ :: rest) fr :=
  JL_pure _ (fun w => by simp [execOp, hx.eq, hy.eq, binOp, eqGuard, Op.intCmp]) n
theorem JL_geq (hx : Ev fr x (.int k a)) (hy : Ev fr y (.int k b)) (n : JL P ops Q w0 σ φ rest (upd fr d (.bool (decide (b ≤ a))))) : JL P ops Q w0 σ φ (⟨some d, .binOp .geq t x y t', ty, pos, aft, none⟩ :: rest) fr :=
  JL_pure _ (fun w => by simp [execOp, hx.eq, hy.eq, binOp, eqGuard, Op.intCmp]) n
theorem JL_eql (hx : Ev fr x (.int k a)) (hy : Ev fr y (.int k b)) (n : JL P ops Q w0 σ φ rest (upd fr d (.bool (decide (a = b))))) : JL P ops Q w0 σ φ (⟨some d, .binOp .eql t x y t', ty, pos, aft, none⟩ :: rest) fr :=
  JL_pure _ (fun w => by simp [execOp, hx.eq, hy.eq, binOp, eqGuard, Op.intCmp]; rfl) n
theorem JL_neq (hx : Ev fr x (.int k a)) (hy : Ev fr y (.int k b)) (n : JL P ops Q w0 σ φ rest (upd fr d (.bool (decide (a ≠ b))))) : JL P ops Q w0 σ φ (⟨some d, .binOp .neq t x y t', ty, pos, aft, none⟩ :: rest) fr :=
  JL_pure _ (fun w => by simp [execOp, hx.eq, hy.eq, binOp, eqGuard, Op.intCmp, bne]; rfl) n
theorem JL_split {p : Prop} [Decidable p] {l : List Oper} (ht : p → JL P ops Q w0 σ φ l (upd fr d (.bool true))) (hf : ¬ p → JL P ops Q w0 σ φ l (upd fr d (.bool false))) : JL P ops Q w0 σ φ l (upd fr d (.bool (decide p))) := by
  by_cases h : p
  · rw [decide_eq_true h]; exact ht h
  · rw [decide_eq_false h]; exact hf h
theorem JL_eqlB {a b : Bool} (hi : P.underlying t = some .bool) (hx : Ev fr x (.bool a)) (hy : Ev fr y (.bool b)) (n : JL P ops Q w0 σ φ rest (upd fr d (.bool (a == b)))) : JL P ops Q w0 σ φ (⟨some d, .binOp .eql t x y t', ty, pos, aft, none⟩ :: rest) fr :=
  JL_pure _ (fun w => by
    simp only [execOp, hx.eq, hy.eq, eqGuard_at_bool, Sem.run_bind, Sem.run_pure, run_eql_bool _ _ _ _ hi, Result.andThen_ok]) n
theorem JL_neqB {a b : Bool} (hi : P.underlying t = some .bool) (hx : Ev fr x (.bool a)) (hy : Ev fr y (.bool b)) (n : JL P ops Q w0 σ φ rest (upd fr d (.bool (a != b)))) : JL P ops Q w0 σ φ (⟨some d, .binOp .neq t x y t', ty, pos, aft, none⟩ :: rest) fr :=
  JL_pure _ (fun w => by
    simp only [execOp, hx.eq, hy.eq, eqGuard_at_bool, Sem.run_bind, Sem.run_pure, run_neq_bool _ _ _ _ hi, Result.andThen_ok]; rfl) n
theorem JL_not {a : Bool} (hx : Ev fr x (.bool a)) (n : JL P ops Q w0 σ φ rest (upd fr d (.bool (!a)))) : JL P ops Q w0 σ φ (⟨some d, .unOp .not t x, ty, pos, aft, none⟩ :: rest) fr :=
  JL_pure _ (fun w => by simp [execOp, hx.eq, Op.unary]) n
theorem JL_neg_to {c : Int} (hx : Ev fr x (.int k a)) (hc : k.wrap (0 - a) = c) (n : JL P ops Q w0 σ φ rest (upd fr d (.int k c))) : JL P ops Q w0 σ φ (⟨some d, .unOp .neg t x, ty, pos, aft, none⟩ :: rest) fr :=
  JL_pure _ (fun w => by simp [execOp, hx.eq, Op.unary, Op.intArith]; simpa using hc) n
theorem JL_convInt {c : Int} (hs : (P.underlying t).isSome = true) (hd : intTy P t' = some k') (hx : Ev fr x (.int k a)) (hc : k'.wrap a = c) (n : JL P ops Q w0 σ φ rest (upd fr d (.int k' c))) :
    JL P ops Q w0 σ φ (⟨some d, .convert t t' x, ty, pos, aft, none⟩ :: rest) fr := by
  have hd' : P.underlying t' = some (.int k') := by
    unfold intTy at hd
    split at hd
    · rename_i h; simp at hd; rw [h, hd]
    · cases hd
  obtain ⟨ds, hs'⟩ := Option.isSome_iff_exists.mp hs
  subst hc
  exact JL_pure _ (fun w => by simp [execOp, hx.eq, convert, run_underlying hd', run_underlying hs', Conv.intToInt]) n
end
end
end Go.Fw
