/- A small program logic over the model: judgements on symbolic states (own resources, views of immutable data, a frame of slots), with one rule for each statement form. -/
import Derived.WalkKit
import Derived.WalkLawsBesides
import Derived.WalkSpells
namespace Go.Fw
open Go Go.RowKit

def lookL : List Value → Nat → Value
  | [], _ => undef
  | v :: _, 0 => v
  | _ :: l, n + 1 => lookL l n
def updV : List Value → Nat → Value → List Value
  | [], _, _ => []
  | _ :: l, 0, x => x :: l
  | v :: l, n + 1, x => v :: updV l n x
theorem updV_zero (v : Value) (l : List Value) (x : Value) : updV (v :: l) 0 x = x :: l := rfl
theorem updV_succ (v : Value) (l : List Value) (n : Nat) (x : Value) : updV (v :: l) (n + 1) x = v :: updV l n x := rfl
/-- A frame of n slots: what was written lately (newest first), and what was there before. -/
structure Fr where
  n : Nat
  pend : List (Nat × Value)
  base : List Value
def lkP : List (Nat × Value) → List Value → Nat → Value
  | [], b, t => lookL b t
  | (d, v) :: p, b, t => bif Nat.beq d t then v else lkP p b t
def flatP : List (Nat × Value) → List Value → List Value
  | [], b => b
  | (d, v) :: p, b => updV (flatP p b) d v
/-- What a slot holds. -/
def look (fr : Fr) (t : Nat) : Value := bif Nat.blt t fr.n then lkP fr.pend fr.base t else undef
def upd (fr : Fr) (d : Nat) (v : Value) : Fr := ⟨fr.n, (d, v) :: fr.pend, fr.base⟩
theorem upd_n (fr : Fr) (d : Nat) (v : Value) : (upd fr d v).n = fr.n := rfl
theorem upd_pend (fr : Fr) (d : Nat) (v : Value) : (upd fr d v).pend = (d, v) :: fr.pend := rfl
theorem upd_base (fr : Fr) (d : Nat) (v : Value) : (upd fr d v).base = fr.base := rfl
def ev (fr : Fr) : Operand → Value
  | .tmp t => look fr t
  | .const v => v
  | .global g => .pointer (some ⟨g, 0, none⟩)
  | .func f => .func (.func f) #[] #[]
def act (fr : Fr) : Act := ⟨((List.range fr.n).map (lkP fr.pend fr.base)).toArray, []⟩

theorem blt_true {t n : Nat} (h : t < n) : Nat.blt t n = true := Nat.ble_eq_true_of_le h
theorem blt_lt {t n : Nat} (h : Nat.blt t n = true) : t < n := Nat.le_of_ble_eq_true h
theorem look_getD (fr : Fr) (t : Nat) : (act fr).tmps.getD t undef = look fr t := by
  unfold look act
  by_cases h : t < fr.n
  · have hb : Nat.blt t fr.n = true := blt_true h
    rw [hb]
    simp [Array.getD, h]
  · have hb : Nat.blt t fr.n = false := by
      cases hb : Nat.blt t fr.n with
      | false => rfl
      | true => exact absurd (blt_lt hb) h
    rw [hb]
    simp [Array.getD, h]
theorem look_get? {fr : Fr} {t : Nat} (h : t < fr.n) : (act fr).tmps[t]? = some (look fr t) := by
  have hb : Nat.blt t fr.n = true := blt_true h
  unfold look act
  rw [hb]
  simp [h]
theorem act_eval (fr : Fr) (x : Operand) : (act fr).eval x = ev fr x := by
  cases x <;> simp only [Act.eval, ev, look_getD]
theorem act_eval_fun (fr : Fr) : (act fr).eval = ev fr := funext (act_eval fr)
theorem act_put (fr : Fr) (d : Nat) (v : Value) : (act fr).put (some d) v = act (upd fr d v) := by
  suffices this : ((act fr).tmps.setIfInBounds d v) = (act (upd fr d v)).tmps from by
    show (⟨(act fr).tmps.setIfInBounds d v, []⟩ : Act) = ⟨(act (upd fr d v)).tmps, []⟩
    rw [this]
  unfold act upd
  apply Array.ext
  · simp
  · intro i h1 h2
    simp only [List.setIfInBounds_toArray, List.getElem_toArray, List.getElem_set, List.getElem_map, List.getElem_range]
    by_cases h : d = i
    · subst h; simp [lkP]
    · have hb : Nat.beq d i = false := by
        cases hb : Nat.beq d i with
        | false => rfl
        | true => exact absurd (Nat.eq_of_beq_eq_true hb) h
      simp [lkP, h, hb]
theorem act_put_none (fr : Fr) (v : Value) : (act fr).put none v = act fr := rfl
theorem nrmF : (∀ (fr : Fr) (d : Nat) (v : Value), (upd fr d v).pend = (d, v) :: fr.pend) ∧ (∀ (fr : Fr) (d : Nat) (v : Value), (upd fr d v).base = fr.base) ∧ (∀ b : List Value, flatP [] b = b) ∧
    (∀ (d : Nat) (v : Value) (p : List (Nat × Value)) (b : List Value), flatP ((d, v) :: p) b = updV (flatP p b) d v) ∧ (∀ (v : Value) (l : List Value) (x : Value), updV (v :: l) 0 x = x :: l) ∧
    (∀ (v : Value) (l : List Value) (n : Nat) (x : Value), updV (v :: l) (n + 1) x = v :: updV l n x) :=
  ⟨fun _ _ _ => rfl, fun _ _ _ => rfl, fun _ => rfl, fun _ _ _ _ => rfl, fun _ _ _ => rfl, fun _ _ _ _ => rfl⟩
theorem lenS {α : Type} : (∀ a b : List α, (a ++ b).length = a.length + b.length) ∧ (∀ (x : α) (l : List α), (x :: l).length = l.length + 1) ∧ (([] : List α).length = 0) ∧ (∀ (l : List α) (i : Nat) (x : α), (l.set i x).length = l.length) ∧
    (∀ (n : Nat) (x : α), (List.replicate n x).length = n) ∧ (∀ (n : Nat) (l : List α), (l.take n).length = min n l.length) ∧ (∀ (n : Nat) (l : List α), (l.drop n).length = l.length - n) :=
  ⟨fun _ _ => List.length_append, fun _ _ => rfl, rfl, fun _ _ _ => List.length_set, fun _ _ => List.length_replicate, fun _ _ => List.length_take, fun _ _ => List.length_drop⟩
theorem length_updV : ∀ (l : List Value) (t : Nat) (x : Value), (updV l t x).length = l.length
  | [], _, _ => rfl
  | _ :: _, 0, _ => rfl
  | _ :: l, t + 1, x => by rw [updV_succ, List.length_cons, length_updV l t x, List.length_cons]
theorem lookL_updV_same : ∀ (l : List Value) (t : Nat) (x : Value), t < l.length → lookL (updV l t x) t = x
  | [], _, _, h => by simp at h
  | _ :: _, 0, _, _ => rfl
  | _ :: l, t + 1, x, h => lookL_updV_same l t x (by simpa using h)
theorem lookL_updV_other : ∀ (l : List Value) (t s : Nat) (x : Value), t ≠ s → lookL (updV l t x) s = lookL l s
  | [], _, _, _, _ => rfl
  | _ :: _, 0, 0, _, h => absurd rfl h
  | _ :: _, 0, _ + 1, _, _ => rfl
  | _ :: _, _ + 1, 0, _, _ => rfl
  | _ :: l, t + 1, s + 1, x, h => lookL_updV_other l t s x (by omega)
theorem length_flatP : ∀ (p : List (Nat × Value)) (b : List Value), (flatP p b).length = b.length
  | [], _ => rfl
  | (d, v) :: p, b => by rw [flatP, length_updV, length_flatP p b]
theorem lookL_flatP : ∀ (p : List (Nat × Value)) (b : List Value) (t : Nat), t < b.length → lookL (flatP p b) t = lkP p b t
  | [], _, _, _ => rfl
  | (d, v) :: p, b, t, h => by
    rw [flatP, lkP]
    by_cases e : d = t
    · subst e
      rw [lookL_updV_same _ _ _ (by rw [length_flatP]; exact h)]
      simp
    · rw [lookL_updV_other _ _ _ _ e, lookL_flatP p b t h]
      have hb : Nat.beq d t = false := by
        cases hb : Nat.beq d t with
        | false => rfl
        | true => exact absurd (Nat.eq_of_beq_eq_true hb) e
      rw [hb]; rfl
/-- The frame written out. -/
theorem act_flat {fr : Fr} {n : Nat} {b' : List Value} (hn : fr.n = n) (hl : Nat.ble n fr.base.length = true) (h : flatP fr.pend fr.base = b') : act fr = act ⟨n, [], b'⟩ := by
  subst hn h
  unfold act
  congr 2
  apply List.map_congr_left
  intro t ht
  have hlt : t < fr.n := List.mem_range.1 ht
  have := Nat.le_of_ble_eq_true hl
  exact (lookL_flatP fr.pend fr.base t (by omega)).symm
theorem lookL_eq : ∀ (l : List Value) (t : Nat) (h : t < l.length), lookL l t = l[t]
  | _ :: _, 0, _ => rfl
  | _ :: l, t + 1, h => lookL_eq l t (by simpa using h)
theorem act_start (b : List Value) : act ⟨b.length, [], b⟩ = ⟨b.toArray, []⟩ := by
  unfold act
  congr 1
  apply Array.ext
  · simp
  · intro i h1 h2
    simp only [List.getElem_toArray, List.getElem_map, List.getElem_range, lkP]
    exact lookL_eq b i (by simpa using h2)

/-- A view: what holds of immutable data that avoids the blocks in X. -/
structure VP where
  holds : (Nat → Prop) → World → Prop
  mono : ∀ (X X' : Nat → Prop) (w w' : World), holds X w → w.heap.size ≤ w'.heap.size →
    (∀ k, k < w.heap.size → ¬ X k → w'.heap[k]? = w.heap[k]?) → (∀ k, k < w.heap.size → X' k → X k) → holds X' w'

def vPure (p : Prop) : VP := ⟨fun _ _ => p, fun _ _ _ _ h _ _ _ => h⟩
def vAnd (p q : VP) : VP := ⟨fun X w => p.holds X w ∧ q.holds X w, fun X X' w w' h a b c => ⟨p.mono X X' w w' h.1 a b c, q.mono X X' w w' h.2 a b c⟩⟩
def vEx {α : Type} (p : α → VP) : VP := ⟨fun X w => ∃ x, (p x).holds X w, fun X X' w w' h a b c => h.elim fun x hx => ⟨x, (p x).mono X X' w w' hx a b c⟩⟩
def vAll {α : Type} (p : α → VP) : VP := ⟨fun X w => ∀ x, (p x).holds X w, fun X X' w w' h a b c x => (p x).mono X X' w w' (h x) a b c⟩
def vList (l : List VP) : VP := ⟨fun X w => ∀ p ∈ l, p.holds X w, fun X X' w w' h a b c p hp => p.mono X X' w w' (h p hp) a b c⟩

/-- The cells xs lie at ad (ad may be nothing where xs is empty). -/
def CellsAt (X : Nat → Prop) (w : World) (ad : Option Addr) (xs : List Value) : Prop :=
  ∀ (j : Nat) (u : Value), xs[j]? = some u → ∃ b o, ad = some ⟨b, o, none⟩ ∧ ¬ X b ∧ w.cell? ⟨b, o + j, none⟩ = some u
theorem block_of_cell {w : World} {b o : Nat} {u : Value} (h : w.cell? ⟨b, o, none⟩ = some u) : b < w.heap.size := World.block_lt_of_cell? w _ h
theorem CellsAt.mono {X X' : Nat → Prop} {w w' : World} {ad : Option Addr} {xs : List Value} (h : CellsAt X w ad xs)
    (hb : ∀ k, k < w.heap.size → ¬ X k → w'.heap[k]? = w.heap[k]?) (hx : ∀ k, k < w.heap.size → X' k → X k) : CellsAt X' w' ad xs := by
  intro j u hj
  obtain ⟨b, o, he, hX, hc⟩ := h j u hj
  have hlt := block_of_cell hc
  refine ⟨b, o, he, fun h' => hX (hx b hlt h'), ?_⟩
  rw [World.cell?_of_block (w := w) (a := ⟨b, o + j, none⟩) (hb b hlt hX)]
  exact hc
/-- A slice's view: its elements' cells, `sz` to an element. -/
def vCells (ad : Option Addr) (xs : List Value) : VP := ⟨fun X w => CellsAt X w ad xs, fun _ _ _ _ h _ b c => h.mono b c⟩

/-- An own resource. -/
structure Res where
  key : Option Nat
  holds : World → Prop
  lt : ∀ w, holds w → ∀ k, key = some k → k < w.heap.size
  mono : ∀ w w', holds w → (∀ k, key = some k → w'.heap[k]? = w.heap[k]?) → holds w'

def box (b : Nat) (T : TypeId) (cs : List Value) : Res where
  key := some b
  holds w := w.heap[b]? = some (.cells cs.toArray T (0, 0))
  lt w h k hk := by
    obtain rfl : b = k := by simpa using hk
    exact (Array.getElem?_eq_some_iff.1 h).1
  mono w w' h hk := (hk b rfl).trans h
/-- An owned slice: n elements of type E (sz cells each), the cells xs. -/
def osl (ad : Option Addr) (n cap : Nat) (E : TypeId) (sz : Nat) (xs : List Value) : Res where
  key := (Value.slice ad n cap).ownBlock
  holds w := w.ownsRow 0 E sz (.slice ad n cap) n xs
  lt w h k hk := (h.lt k hk).2
  mono w w' h hk := by
    refine ⟨h.1, ?_⟩
    rcases h.2 with hn | ⟨g, cap', cur, hv, hb, hgg, rest⟩
    · exact .inl hn
    · refine .inr ⟨g, cap', cur, hv, hb, ?_, rest⟩
      rw [hk g (by rw [hv]; rfl)]
      exact hgg

/-- The world as the call began, and the blocks that flagged views avoid. -/
structure Ctx where
  w : World
  Y : Nat → Prop
  hY : ∀ k, Y k → k < w.heap.size
def Xof (w0 : Ctx) (σ : List Res) (f : Bool) (k : Nat) : Prop := (∃ r ∈ σ, r.key = some k) ∨ (f = true ∧ w0.Y k)

structure St (w0 : Ctx) (w : World) (σ : List Res) (φ : List (Bool × VP)) : Prop where
  base : Below w0.w.heap.size w0.w w
  own : ∀ r ∈ σ, r.holds w
  fresh : ∀ r ∈ σ, ∀ k, r.key = some k → w0.w.heap.size ≤ k
  dist : σ.Pairwise fun r s => ∀ k, r.key = some k → s.key ≠ some k
  views : ∀ p ∈ φ, p.2.holds (Xof w0 σ p.1) w

/-- The world grows: all that was there is as it was. -/
theorem St.ext {w0 : Ctx} {w w' : World} {σ : List Res} {φ : List (Bool × VP)} (h : St w0 w σ φ) (hb : Below w.heap.size w w') : St w0 w' σ φ where
  base := h.base.trans (hb.mono h.base.size)
  own r hr := r.mono w w' (h.own r hr) fun k hk => hb.block k (r.lt w (h.own r hr) k hk)
  fresh := h.fresh
  dist := h.dist
  views p hp := p.2.mono _ _ w w' (h.views p hp) hb.size (fun k hk _ => hb.block k hk) fun _ _ h => h

theorem St.addView {w0 : Ctx} {w : World} {σ : List Res} {φ : List (Bool × VP)} (h : St w0 w σ φ) {p : Bool × VP} (hp : p.2.holds (Xof w0 σ p.1) w) : St w0 w σ (p :: φ) where
  base := h.base
  own := h.own
  fresh := h.fresh
  dist := h.dist
  views q hq := by
    rcases List.mem_cons.1 hq with rfl | hq
    · exact hp
    · exact h.views q hq
theorem St.addViews {w0 : Ctx} {w : World} {σ : List Res} {φ ψ : List (Bool × VP)} (h : St w0 w σ φ) (hp : ∀ p ∈ ψ, p.2.holds (Xof w0 σ p.1) w) : St w0 w σ (φ ++ ψ) where
  base := h.base
  own := h.own
  fresh := h.fresh
  dist := h.dist
  views q hq := by
    rcases List.mem_append.1 hq with hq | hq
    · exact h.views q hq
    · exact hp q hq
theorem St.weaken {w0 : Ctx} {w : World} {σ : List Res} {φ φ' : List (Bool × VP)} (h : St w0 w σ φ) (hs : ∀ p ∈ φ', p ∈ φ) : St w0 w σ φ' where
  base := h.base
  own := h.own
  fresh := h.fresh
  dist := h.dist
  views q hq := h.views q (hs q hq)
/-- A new block among the own resources (put last). -/
theorem St.addRes {w0 : Ctx} {w w' : World} {σ : List Res} {φ : List (Bool × VP)} (h : St w0 w σ φ) (r : Res) (hb : Below w.heap.size w w') (hr : r.holds w') (hk : ∀ k, r.key = some k → w.heap.size ≤ k) : St w0 w' (σ ++ [r]) φ where
  base := h.base.trans (hb.mono h.base.size)
  own s hs := by
    rcases List.mem_append.1 hs with hs | hs
    · exact s.mono w w' (h.own s hs) fun k hk => hb.block k (s.lt w (h.own s hs) k hk)
    · obtain rfl := List.mem_singleton.1 hs
      exact hr
  fresh s hs k hk' := by
    rcases List.mem_append.1 hs with hs | hs
    · exact h.fresh s hs k hk'
    · obtain rfl := List.mem_singleton.1 hs
      exact Nat.le_trans h.base.size (hk k hk')
  dist := by
    refine List.pairwise_append.2 ⟨h.dist, List.pairwise_singleton _ _, ?_⟩
    intro s hs t ht k hsk htk
    obtain rfl := List.mem_singleton.1 ht
    have h1 := s.lt w (h.own s hs) k hsk
    have h2 := hk k htk
    omega
  views p hp := p.2.mono _ _ w w' (h.views p hp) hb.size (fun k hk _ => hb.block k hk) (by
    intro k hk hX
    rcases hX with ⟨s, hs, hsk⟩ | hX
    · rcases List.mem_append.1 hs with hs | hs
      · exact .inl ⟨s, hs, hsk⟩
      · obtain rfl := List.mem_singleton.1 hs
        have h2 := hk k hsk
        omega
    · exact .inr hX)

theorem mem_set_cases {α : Type} {l : List α} {i : Nat} {x y : α} (h : y ∈ l.set i x) : y = x ∨ y ∈ l := by
  rcases List.mem_or_eq_of_mem_set h with h | h
  · exact .inr h
  · exact .inl h

/-- Resource number i turns into r', whose key is the old one, or a new block; all other blocks are as they were. -/
theorem St.setRes {w0 : Ctx} {w w' : World} {σ : List Res} {φ : List (Bool × VP)} (h : St w0 w σ φ) (i : Nat) (r r' : Res) (hi : σ[i]? = some r)
    (hsz : w.heap.size ≤ w'.heap.size) (hos : w'.os = w.os) (htp : w'.tape = w.tape) (hout : w'.output = w.output)
    (hblk : ∀ k, k < w.heap.size → r.key ≠ some k → w'.heap[k]? = w.heap[k]?) (hr : r'.holds w')
    (hkey : ∀ k, r'.key = some k → r.key = some k ∨ w.heap.size ≤ k) : St w0 w' (σ.set i r') φ := by
  have hmem : r ∈ σ := List.mem_of_getElem? hi
  have hilt : i < σ.length := (List.getElem?_eq_some_iff.1 hi).1
  have hget : σ[i] = r := by rw [List.getElem?_eq_getElem hilt] at hi; simpa using hi
  have hd := h.dist
  have hne : ∀ (j : Nat) (hj : j < σ.length), j ≠ i → ∀ k, r.key = some k → σ[j].key ≠ some k := by
    intro j hj hji k hk hjk
    rcases Nat.lt_or_gt_of_ne hji with hlt | hgt
    · exact (List.pairwise_iff_getElem.1 hd j i hj hilt hlt) k hjk (by rw [hget]; exact hk)
    · exact (List.pairwise_iff_getElem.1 hd i j hilt hj hgt) k (by rw [hget]; exact hk) hjk
  have hoth : ∀ (j : Nat) (hj : j < σ.length), j ≠ i → σ[j].holds w' := by
    intro j hj hji
    refine σ[j].mono w w' (h.own _ (List.getElem_mem hj)) fun k hk => ?_
    exact hblk k (σ[j].lt w (h.own _ (List.getElem_mem hj)) k hk) fun hrk => hne j hj hji k hrk hk
  refine ⟨?_, ?_, ?_, ?_, ?_⟩
  · refine ⟨hos.trans h.base.os, htp.trans h.base.tape, hout.trans h.base.output, Nat.le_trans h.base.size hsz, fun k hk => ?_⟩
    rw [hblk k (Nat.lt_of_lt_of_le hk h.base.size) (fun hrk => by have := h.fresh r hmem k hrk; omega)]
    exact h.base.block k hk
  · intro s hs
    obtain ⟨j, hj, rfl⟩ := List.mem_iff_getElem.1 hs
    rw [List.getElem_set]
    split
    · exact hr
    · rename_i hne'; exact hoth j (by simpa using hj) (fun e => hne' e.symm)
  · intro s hs k hk
    rcases mem_set_cases hs with rfl | hs
    · rcases hkey k hk with h1 | h1
      · exact h.fresh r hmem k h1
      · exact Nat.le_trans h.base.size h1
    · exact h.fresh s hs k hk
  · refine List.pairwise_iff_getElem.2 fun a b ha hb hab => ?_
    simp only [List.length_set] at ha hb
    intro k hak hbk
    rw [List.getElem_set] at hak hbk
    split at hak
    · split at hbk
      · omega
      · rename_i hia hib
        subst hia
        have hlt := σ[b].lt w (h.own _ (List.getElem_mem hb)) k hbk
        rcases hkey k hak with h1 | h1
        · exact hne b hb (by omega) k h1 hbk
        · omega
    · split at hbk
      · rename_i hia hib
        subst hib
        have hlt := σ[a].lt w (h.own _ (List.getElem_mem ha)) k hak
        rcases hkey k hbk with h1 | h1
        · exact hne a ha (by omega) k h1 hak
        · omega
      · exact (List.pairwise_iff_getElem.1 hd a b ha hb hab) k hak hbk
  · intro p hp
    refine p.2.mono _ _ w w' (h.views p hp) hsz (fun k hk hX => hblk k hk fun hrk => hX (.inl ⟨r, hmem, hrk⟩)) ?_
    intro k hk hX
    rcases hX with ⟨s, hs, hsk⟩ | hX
    · rcases mem_set_cases hs with rfl | hs
      · rcases hkey k hsk with h1 | h1
        · exact .inl ⟨r, hmem, h1⟩
        · omega
      · exact .inl ⟨s, hs, hsk⟩
    · exact .inr hX

/-- Own resources may be let go (forgotten). -/
theorem St.dropRes {w0 : Ctx} {w : World} {σ σ' : List Res} {φ : List (Bool × VP)} (h : St w0 w σ φ) (hs : σ'.Sublist σ) : St w0 w σ' φ where
  base := h.base
  own r hr := h.own r (hs.subset hr)
  fresh r hr := h.fresh r (hs.subset hr)
  dist := h.dist.sublist hs
  views p hp := p.2.mono _ _ w w (h.views p hp) (Nat.le_refl _) (fun _ _ _ => rfl) (by
    intro k _ hX
    rcases hX with ⟨s, hs', hsk⟩ | hX
    · exact .inl ⟨s, hs.subset hs', hsk⟩
    · exact .inr hX)

/-! ## Judgements -/
section
variable (P : Program)
def JC (c : Code) (Q : Exit → Act → World → Prop) (w0 : Ctx) (σ : List Res) (φ : List (Bool × VP)) (fr : Fr) : Prop :=
  ∀ w, St w0 w σ φ → c.wp P Q (act fr) w
def JL (ops : Array Oper) (Q : Exit → Act → World → Prop) (w0 : Ctx) (σ : List Res) (φ : List (Bool × VP)) (l : List Oper) (fr : Fr) : Prop :=
  ∀ w, St w0 w σ φ → wpList P ops Q l (act fr) w
def JE (Q : Exit → Act → World → Prop) (e : Exit) (w0 : Ctx) (σ : List Res) (φ : List (Bool × VP)) (fr : Fr) : Prop :=
  ∀ w, St w0 w σ φ → Q e (act fr) w
/-- What follows a statement. -/
def Then (y : Code) (Q : Exit → Act → World → Prop) : Exit → Act → World → Prop := Exit.then (fun a w => y.wp P Q a w) Q
end
section
variable {P : Program} {Q : Exit → Act → World → Prop} {w0 : Ctx} {σ σ' : List Res} {φ φ' : List (Bool × VP)} {fr : Fr} {ops : Array Oper}

theorem JC_seq {x y : Code} (h : JC P x (Then P y Q) w0 σ φ fr) : JC P (.seq x y) Q w0 σ φ fr := fun w s => wp_seq (h w s)
theorem JC_region {id : Nat} {l : List Oper} (h : JL P l.toArray Q w0 σ φ l fr) : JC P (.region id l.toArray false) Q w0 σ φ fr :=
  fun w s => wp_region_lit (h w s)
theorem JC_skip (h : JE Q .normal w0 σ φ fr) : JC P .skip Q w0 σ φ fr := fun w s => wp_skip (h w s)
theorem JC_label {l : Nat} (h : JE Q .normal w0 σ φ fr) : JC P (.label l) Q w0 σ φ fr := fun w s => wp_label (h w s)
theorem JC_exit {id : Nat} (h : JE Q (.exit id) w0 σ φ fr) : JC P (.exit id) Q w0 σ φ fr := fun w s => wp_exit (h w s)
theorem JC_ret (h : JE Q .ret w0 σ φ fr) : JC P .ret Q w0 σ φ fr := fun w s => wp_ret (h w s)
theorem JC_block {id : Nat} {c : Code} (h : JC P c (Exit.inBlock id Q) w0 σ φ fr) : JC P (.block id c) Q w0 σ φ fr := fun w s => wp_block (h w s)
theorem JC_true {c : Operand} {x y : Code} (hc : ev fr c = .bool true) (h : JC P x Q w0 σ φ fr) : JC P (.cond c x y) Q w0 σ φ fr :=
  fun w s => wp_cond_true (by rw [act_eval]; exact hc) (h w s)
theorem JC_false {c : Operand} {x y : Code} (hc : ev fr c = .bool false) (h : JC P y Q w0 σ φ fr) : JC P (.cond c x y) Q w0 σ φ fr :=
  fun w s => wp_cond_false (by rw [act_eval]; exact hc) (h w s)
theorem JC_cond {c : Operand} {x y : Code} {b : Bool} (hc : ev fr c = .bool b) (ht : b = true → JC P x Q w0 σ φ fr) (hf : b = false → JC P y Q w0 σ φ fr) :
    JC P (.cond c x y) Q w0 σ φ fr :=
  fun w s => wp_cond_split (by rw [act_eval]; exact hc) (fun h => ht h w s) (fun h => hf h w s)
theorem JC_conv {c : Code} (h : ∀ w, St w0 w σ φ → St w0 w σ' φ') (k : JC P c Q w0 σ' φ' fr) : JC P c Q w0 σ φ fr := fun w s => k w (h w s)
theorem JE_conv {e : Exit} (h : ∀ w, St w0 w σ φ → St w0 w σ' φ') (k : JE Q e w0 σ' φ' fr) : JE Q e w0 σ φ fr := fun w s => k w (h w s)
theorem JL_conv {l : List Oper} (h : ∀ w, St w0 w σ φ → St w0 w σ' φ') (k : JL P ops Q w0 σ' φ' l fr) : JL P ops Q w0 σ φ l fr := fun w s => k w (h w s)
theorem JC_fact {c : Code} {p : Prop} (h : ∀ w, St w0 w σ φ → p) (k : p → JC P c Q w0 σ φ fr) : JC P c Q w0 σ φ fr := fun w s => k (h w s) w s
theorem JE_fact {e : Exit} {p : Prop} (h : ∀ w, St w0 w σ φ → p) (k : p → JE Q e w0 σ φ fr) : JE Q e w0 σ φ fr := fun w s => k (h w s) w s
theorem JL_fact {l : List Oper} {p : Prop} (h : ∀ w, St w0 w σ φ → p) (k : p → JL P ops Q w0 σ φ l fr) : JL P ops Q w0 σ φ l fr := fun w s => k (h w s) w s
theorem JC_open {c : Code} {α : Type} {s' : α → List Res} {f' : α → List (Bool × VP)} (h : ∀ w, St w0 w σ φ → ∃ x, St w0 w (s' x) (f' x)) (k : ∀ x, JC P c Q w0 (s' x) (f' x) fr) : JC P c Q w0 σ φ fr :=
  fun w s => (h w s).elim fun x hx => k x w hx
theorem JE_open {e : Exit} {α : Type} {s' : α → List Res} {f' : α → List (Bool × VP)} (h : ∀ w, St w0 w σ φ → ∃ x, St w0 w (s' x) (f' x)) (k : ∀ x, JE Q e w0 (s' x) (f' x) fr) : JE Q e w0 σ φ fr :=
  fun w s => (h w s).elim fun x hx => k x w hx
theorem JL_open {l : List Oper} {α : Type} {s' : α → List Res} {f' : α → List (Bool × VP)} (h : ∀ w, St w0 w σ φ → ∃ x, St w0 w (s' x) (f' x)) (k : ∀ x, JL P ops Q w0 (s' x) (f' x) l fr) : JL P ops Q w0 σ φ l fr :=
  fun w s => (h w s).elim fun x hx => k x w hx

theorem JL_nil (h : JE Q .normal w0 σ φ fr) : JL P ops Q w0 σ φ [] fr := fun w s => wpList_nil (h w s)
theorem JE_then {y : Code} (h : JC P y Q w0 σ φ fr) : JE (Then P y Q) .normal w0 σ φ fr := fun w s => h w s
theorem JL_done {y : Code} (h : JC P y Q w0 σ φ fr) : JL P ops (Then P y Q) w0 σ φ [] fr := fun w s => wpList_nil (h w s)
theorem JE_then_exit {y : Code} {id : Nat} (h : JE Q (.exit id) w0 σ φ fr) : JE (Then P y Q) (.exit id) w0 σ φ fr := fun w s => h w s
theorem JE_then_ret {y : Code} (h : JE Q .ret w0 σ φ fr) : JE (Then P y Q) .ret w0 σ φ fr := fun w s => h w s
theorem JE_block_normal {id : Nat} (h : JE Q .normal w0 σ φ fr) : JE (Exit.inBlock id Q) .normal w0 σ φ fr := fun w s => h w s
theorem JE_block_ret {id : Nat} (h : JE Q .ret w0 σ φ fr) : JE (Exit.inBlock id Q) .ret w0 σ φ fr := fun w s => h w s
theorem JE_block_exit {id : Nat} (h : JE Q .normal w0 σ φ fr) : JE (Exit.inBlock id Q) (.exit id) w0 σ φ fr := fun w s => by
  show (if id = id then Q .normal (act fr) w else Q (.exit id) (act fr) w)
  rw [if_pos rfl]; exact h w s
theorem JE_block_other {id id' : Nat} (hne : (id' == id) = false) (h : JE Q (.exit id') w0 σ φ fr) : JE (Exit.inBlock id Q) (.exit id') w0 σ φ fr := fun w s => by
  show (if id' = id then Q .normal (act fr) w else Q (.exit id') (act fr) w)
  rw [if_neg (by simpa using hne)]; exact h w s

/-! ## Loops: a measure of one's own -/
theorem wp_loop_n {c : Code} (I : Nat → Act → World → Prop) {n : Nat} {a : Act} {w : World} (h0 : I n a w)
    (round : ∀ n a w, I n a w → c.wp P (Exit.then (fun a' w' => ∃ m, m < n ∧ I m a' w') Q) a w) : (Code.loop c).wp P Q a w := by
  intro b k cs
  have key : ∀ n a w, I n a w →
      ∃ e a' w', Q e a' w' ∧ Arrives P (lone (b.at a (.code c :: .inLoop c :: k)) cs w) b k cs e a' w' := by
    intro n
    induction n using Nat.strongRecOn with
    | _ n ih =>
      intro a w hI
      obtain ⟨e, a₁, w₁, hq, harr⟩ := round n a w hI b (.inLoop c :: k) cs
      cases e with
      | normal =>
        obtain ⟨m, hlt, hI₁⟩ := hq
        obtain ⟨e₂, a₂, w₂, hq₂, harr₂⟩ := ih m hlt a₁ w₁ hI₁
        exact ⟨e₂, a₂, w₂, hq₂, .of_steps (Steps.trans harr (.one step_inLoop)) harr₂⟩
      | exit id => exact ⟨_, a₁, w₁, hq, .pass (x := .inLoop c) rfl (fun _ _ => .inl (by simp)) harr⟩
      | goto l => exact ⟨_, a₁, w₁, hq, .pass (x := .inLoop c) rfl (fun _ _ => .inl (by simp)) harr⟩
      | ret => exact ⟨_, a₁, w₁, hq, .pass (x := .inLoop c) rfl (fun _ _ => .inl (by simp)) harr⟩
      | panic ch => exact ⟨_, a₁, w₁, hq, .pass (x := .inLoop c) rfl (fun _ _ => .inl (by simp)) harr⟩
      | outgrown => exact ⟨_, a₁, w₁, hq, .pass (x := .inLoop c) rfl (fun _ _ => .inl (by simp)) harr⟩
  obtain ⟨e, a', w', hq, harr⟩ := key _ a w h0
  exact ⟨e, a', w', hq, .of_steps (.one step_loop) harr⟩

/-- What a round hands on: a state i of the loop, with fewer rounds to come. -/
def Next {ι : Type} (w0 : Ctx) (C : ι → Prop) (μ : ι → Nat) (s : ι → List Res) (f : ι → List (Bool × VP)) (F : ι → Fr) (n : Nat)
    (Q : Exit → Act → World → Prop) : Exit → Act → World → Prop :=
  Exit.then (fun a' w' => ∃ m, m < n ∧ ∃ i, m = μ i ∧ C i ∧ a' = act (F i) ∧ St w0 w' (s i) (f i)) Q

theorem JC_loop {c : Code} (ι : Type) (C : ι → Prop) (μ : ι → Nat) (s : ι → List Res) (f : ι → List (Bool × VP)) (F : ι → Fr) (i0 : ι)
    (hfr : fr = F i0) (h0 : C i0) (hst : ∀ w, St w0 w σ φ → St w0 w (s i0) (f i0))
    (round : ∀ i, C i → JC P c (Next w0 C μ s f F (μ i) Q) w0 (s i) (f i) (F i)) : JC P (.loop c) Q w0 σ φ fr := by
  intro w st
  refine wp_loop_n (fun n a w => ∃ i, n = μ i ∧ C i ∧ a = act (F i) ∧ St w0 w (s i) (f i)) ⟨i0, rfl, h0, by rw [hfr], hst w st⟩ ?_
  rintro n a w ⟨i, rfl, hC, rfl, hs⟩
  exact round i hC w hs
theorem JE_next {ι : Type} {C : ι → Prop} {μ : ι → Nat} {s : ι → List Res} {f : ι → List (Bool × VP)} {F : ι → Fr} {n : Nat} (i : ι)
    (hfr : fr = F i) (hC : C i) (hμ : μ i < n) (hst : ∀ w, St w0 w σ φ → St w0 w (s i) (f i)) : JE (Next w0 C μ s f F n Q) .normal w0 σ φ fr :=
  fun w st => ⟨_, hμ, i, rfl, hC, by rw [hfr], hst w st⟩
theorem JE_next_exit {ι : Type} {C : ι → Prop} {μ : ι → Nat} {s : ι → List Res} {f : ι → List (Bool × VP)} {F : ι → Fr} {n : Nat} {id : Nat}
    (h : JE Q (.exit id) w0 σ φ fr) : JE (Next w0 C μ s f F n Q) (.exit id) w0 σ φ fr := fun w st => h w st
theorem JE_next_ret {ι : Type} {C : ι → Prop} {μ : ι → Nat} {s : ι → List Res} {f : ι → List (Bool × VP)} {F : ι → Fr} {n : Nat}
    (h : JE Q .ret w0 σ φ fr) : JE (Next w0 C μ s f F n Q) .ret w0 σ φ fr := fun w st => h w st

/-- Ways that meet again: a statement x with a middle condition. -/
def Mid {ι : Type} (w0 : Ctx) (C : ι → Prop) (s : ι → List Res) (f : ι → List (Bool × VP)) (F : ι → Fr) (Q : Exit → Act → World → Prop) : Exit → Act → World → Prop :=
  Exit.then (fun a' w' => ∃ i, C i ∧ a' = act (F i) ∧ St w0 w' (s i) (f i)) Q
theorem JC_cut {x y : Code} (ι : Type) (C : ι → Prop) (s : ι → List Res) (f : ι → List (Bool × VP)) (F : ι → Fr)
    (h1 : JC P x (Mid w0 C s f F Q) w0 σ φ fr) (h2 : ∀ i, C i → JC P y Q w0 (s i) (f i) (F i)) : JC P (.seq x y) Q w0 σ φ fr := by
  intro w st
  refine wp_seq (wp_mono (h1 w st) ?_)
  intro e a w' h
  cases e with
  | normal =>
    obtain ⟨i, hC, rfl, hs⟩ := h
    exact h2 i hC w' hs
  | _ => exact h
theorem JE_mid {ι : Type} {C : ι → Prop} {s : ι → List Res} {f : ι → List (Bool × VP)} {F : ι → Fr} (i : ι)
    (hfr : fr = F i) (hC : C i) (hst : ∀ w, St w0 w σ φ → St w0 w (s i) (f i)) : JE (Mid w0 C s f F Q) .normal w0 σ φ fr :=
  fun w st => ⟨i, hC, by rw [hfr], hst w st⟩
theorem JE_mid_exit {ι : Type} {C : ι → Prop} {s : ι → List Res} {f : ι → List (Bool × VP)} {F : ι → Fr} {id : Nat}
    (h : JE Q (.exit id) w0 σ φ fr) : JE (Mid w0 C s f F Q) (.exit id) w0 σ φ fr := fun w st => h w st
theorem JE_mid_ret {ι : Type} {C : ι → Prop} {s : ι → List Res} {f : ι → List (Bool × VP)} {F : ι → Fr}
    (h : JE Q .ret w0 σ φ fr) : JE (Mid w0 C s f F Q) .ret w0 σ φ fr := fun w st => h w st
end

/-! ## Contracts -/
/-- Results in fresh memory. -/
def PostF (w : World) (Post : Value → List VP → Prop) (e : Ending) (w' : World) : Prop :=
  ∃ v φo, e = .returned v ∧ Post v φo ∧ Below w.heap.size w w' ∧ ∀ p ∈ φo, p.holds (fun k => k < w.heap.size) w'
def ConF (P : Program) (f : FuncId) (args : List Value) (φin : List VP) (Post : Value → List VP → Prop) : Prop :=
  ∀ w, (∀ p ∈ φin, p.holds (fun _ => False) w) → Calls P f args.toArray w (PostF w Post)
/-- Results may share memory with the arguments. -/
def PostA (w : World) (X : Nat → Prop) (Post : Value → List VP → Prop) (e : Ending) (w' : World) : Prop :=
  ∃ v φo, e = .returned v ∧ Post v φo ∧ Below w.heap.size w w' ∧ ∀ p ∈ φo, p.holds X w'
def ConA (P : Program) (f : FuncId) (args : List Value) (φin : List VP) (Post : Value → List VP → Prop) : Prop :=
  ∀ w (X : Nat → Prop), (∀ k, X k → k < w.heap.size) → (∀ p ∈ φin, p.holds X w) → Calls P f args.toArray w (PostA w X Post)
theorem ConF.conA {P : Program} {f : FuncId} {args : List Value} {φin : List VP} {Post : Value → List VP → Prop} (h : ConF P f args φin Post) : ConA P f args φin Post := by
  intro w X hX hin
  refine (h w fun p hp => p.mono _ _ w w (hin p hp) (Nat.le_refl _) (fun _ _ _ => rfl) (fun _ _ h => h.elim)).mono ?_
  rintro e w' ⟨v, φo, rfl, hP, hb, hv⟩
  exact ⟨v, φo, rfl, hP, hb, fun p hp => p.mono _ _ w' w' (hv p hp) (Nat.le_refl _) (fun _ _ _ => rfl) (fun k _ h => hX k h)⟩

/-- Everything old. -/
def allOld (w : World) : Ctx := ⟨w, fun k => k < w.heap.size, fun _ h => h⟩
theorem St.start {w : World} {φin : List VP} (h : ∀ p ∈ φin, p.holds (fun _ => False) w) : St (allOld w) w [] (φin.map fun p => (false, p)) where
  base := Below.refl _ _
  own r hr := by cases hr
  fresh r hr := by cases hr
  dist := List.Pairwise.nil
  views p hp := by
    obtain ⟨q, hq, rfl⟩ := List.mem_map.1 hp
    refine q.mono _ _ w w (h q hq) (Nat.le_refl _) (fun _ _ _ => rfl) ?_
    intro k _ hX
    rcases hX with ⟨r, hr, _⟩ | hX
    · cases hr
    · exact absurd hX.1 (by simp)
theorem St.startA {w : World} {X : Nat → Prop} (hX : ∀ k, X k → k < w.heap.size) {φin : List VP} (h : ∀ p ∈ φin, p.holds X w) : St ⟨w, X, hX⟩ w [] (φin.map fun p => (true, p)) where
  base := Below.refl _ _
  own r hr := by cases hr
  fresh r hr := by cases hr
  dist := List.Pairwise.nil
  views p hp := by
    obtain ⟨q, hq, rfl⟩ := List.mem_map.1 hp
    refine q.mono _ _ w w (h q hq) (Nat.le_refl _) (fun _ _ _ => rfl) ?_
    intro k _ hk
    rcases hk with ⟨r, hr, _⟩ | hk
    · cases hr
    · exact hk.2
/-- What the end of a function owes: its views avoid Y. -/
def PostY (c : Ctx) (Post : Value → List VP → Prop) (e : Ending) (w' : World) : Prop :=
  ∃ v φo, e = .returned v ∧ Post v φo ∧ Below c.w.heap.size c.w w' ∧ ∀ p ∈ φo, p.holds c.Y w'
theorem ConF_of {P : Program} {f : FuncId} {fn : Func} {c : Code} {args : List Value} {φin : List VP} {Post : Value → List VP → Prop}
    (hf : P.funcs[f]? = some fn) (hb : fn.body = some c) (n : Nat) (b : List Value) (hfr : args ++ List.replicate (fn.ntmps - args.length) undef = b) (hn : b.length = n)
    (h : ∀ w0, JC P c (bodyPost P fn (PostY w0 Post)) w0 [] (φin.map fun p => (false, p)) ⟨n, [], b⟩) : ConF P f args φin Post := by
  intro w hin
  refine calls_of_wp hf hb ?_
  have he : (⟨args.toArray ++ Array.replicate (fn.ntmps - args.toArray.size) undef, []⟩ : Act) = act ⟨n, [], b⟩ := by
    rw [← hn, act_start, ← hfr]; simp
  rw [he]
  exact h (allOld w) w (St.start hin)
theorem ConA_of {P : Program} {f : FuncId} {fn : Func} {c : Code} {args : List Value} {φin : List VP} {Post : Value → List VP → Prop}
    (hf : P.funcs[f]? = some fn) (hb : fn.body = some c) (n : Nat) (b : List Value) (hfr : args ++ List.replicate (fn.ntmps - args.length) undef = b) (hn : b.length = n)
    (h : ∀ w0, JC P c (bodyPost P fn (PostY w0 Post)) w0 [] (φin.map fun p => (true, p)) ⟨n, [], b⟩) : ConA P f args φin Post := by
  intro w X hX hin
  refine calls_of_wp hf hb ?_
  have he : (⟨args.toArray ++ Array.replicate (fn.ntmps - args.toArray.size) undef, []⟩ : Act) = act ⟨n, [], b⟩ := by
    rw [← hn, act_start, ← hfr]; simp
  rw [he]
  exact h ⟨w, X, hX⟩ w (St.startA hX hin)

theorem bodyPost_of {P : Program} {fn : Func} {R : Ending → World → Prop} {fr : Fr} {w : World} {v : Value}
    (hr : (results fn (act fr).tmps).run P w = .ok v w) (hR : R (.returned v) w) : bodyPost P fn R .ret (act fr) w := ⟨rfl, v, hr, hR⟩
theorem bodyPost_of' {P : Program} {fn : Func} {R : Ending → World → Prop} {fr : Fr} {w : World} {v : Value}
    (hr : (results fn (act fr).tmps).run P w = .ok v w) (hR : R (.returned v) w) : bodyPost P fn R .normal (act fr) w := ⟨rfl, v, hr, hR⟩

section
variable {w0 : Ctx} {σ : List Res} {φ : List (Bool × VP)} {Post : Value → List VP → Prop}
theorem PostY_of {w : World} {v : Value} (s : St w0 w σ φ) (φo : List VP) (hP : Post v φo) (hv : ∀ p ∈ φo, (true, p) ∈ φ) : PostY w0 Post (.returned v) w :=
  ⟨v, φo, rfl, hP, s.base, fun p hp => p.mono _ _ w w (s.views _ (hv p hp)) (Nat.le_refl _) (fun _ _ _ => rfl) (fun _ _ h => .inr ⟨rfl, h⟩)⟩
end
end Go.Fw

/-! The program logic's rules for single operations that read and write slots alone. -/
namespace Go.Fw
open Go Go.RowKit

/-! ## Looking things up, by unfolding -/
def LkL : List Value → Nat → Value → Prop
  | [], _, u => u = undef
  | v :: _, 0, u => u = v
  | _ :: l, n + 1, u => LkL l n u
def LkP : List (Nat × Value) → List Value → Nat → Value → Prop
  | [], b, t, u => LkL b t u
  | (d, v) :: p, b, t, u => bif Nat.beq d t then u = v else LkP p b t u
def Lk (fr : Fr) (t : Nat) (u : Value) : Prop := bif Nat.blt t fr.n then LkP fr.pend fr.base t u else u = undef
def Ev (fr : Fr) : Operand → Value → Prop
  | .tmp t, u => Lk fr t u
  | .const c, u => u = c
  | .global g, u => u = .pointer (some ⟨g, 0, none⟩)
  | .func f, u => u = .func (.func f) #[] #[]
def Nth {α : Type} : List α → Nat → α → Prop
  | [], _, _ => False
  | v :: _, 0, u => u = v
  | _ :: l, n + 1, u => Nth l n u
theorem LkL.eq : ∀ {l : List Value} {t : Nat} {u : Value}, LkL l t u → lookL l t = u
  | [], _, _, h => h.symm
  | _ :: _, 0, _, h => h.symm
  | _ :: l, n + 1, _, h => LkL.eq (l := l) (t := n) h
theorem LkP.eq : ∀ {p : List (Nat × Value)} {b : List Value} {t : Nat} {u : Value}, LkP p b t u → lkP p b t = u
  | [], _, _, _, h => LkL.eq h
  | (d, v) :: p, b, t, u, h => by
    rw [lkP]
    rw [LkP] at h
    cases hb : Nat.beq d t with
    | true => rw [hb] at h; exact (show u = v from h).symm
    | false => rw [hb] at h; exact LkP.eq (show LkP p b t u from h)
theorem Lk.eq {fr : Fr} {t : Nat} {u : Value} (h : Lk fr t u) : look fr t = u := by
  unfold look
  unfold Lk at h
  cases hb : Nat.blt t fr.n with
  | true => rw [hb] at h; exact LkP.eq h
  | false => rw [hb] at h; exact (show u = undef from h).symm
theorem Ev.eq {fr : Fr} {x : Operand} {u : Value} (h : Ev fr x u) : ev fr x = u := by
  cases x with
  | tmp t => exact Lk.eq h
  | _ => exact (show u = _ from h).symm
theorem Nth.get {α : Type} : ∀ {l : List α} {n : Nat} {u : α}, Nth l n u → l[n]? = some u
  | [], _, _, h => h.elim
  | _ :: _, 0, _, h => by rw [show _ = _ from h]; rfl
  | _ :: l, n + 1, _, h => by simpa using Nth.get (l := l) (n := n) h
theorem Nth.mem {α : Type} {l : List α} {n : Nat} {u : α} (h : Nth l n u) : u ∈ l := List.mem_of_getElem? h.get
def updL {α : Type} : List α → Nat → α → List α
  | [], _, _ => []
  | _ :: l, 0, x => x :: l
  | v :: l, n + 1, x => v :: updL l n x
theorem updL_set {α : Type} : ∀ (l : List α) (t : Nat) (x : α), updL l t x = l.set t x := by
  intro l
  induction l with
  | nil => intro t x; simp [updL]
  | cons v l ih => intro t x; cases t <;> simp [updL, ih]

/-! ## Facts on a program's tables, each closed by the kernel -/
def aggDesc : TypeDesc → Bool
  | .struct _ | .array _ _ => true
  | _ => false
def tyOf (P : Program) (T : TypeId) : Option (Bool × Nat) :=
  match P.underlying T, P.info? T with
  | some d, some i => some (aggDesc d, i.size)
  | _, _ => none
def zeroOf (P : Program) (T : TypeId) : Option (List Value) := ((P.info? T).bind (·.zero)).map (·.cells.toList)
def slOf (P : Program) (t : TypeId) : Option (TypeId × Nat × Nat × List Value) :=
  match P.underlying t with
  | some (.slice e) => match P.info? e with
    | some i => i.zero.map fun z => (e, i.size, i.bytes, z.cells.toList)
    | none => none
  | _ => none
def fOf (P : Program) (s : TypeId) (f : Nat) : Option Nat :=
  match P.underlying s with
  | some (.struct fields) => match fields[f]? with
    | some fd => match P.info? fd.type with
      | some i => if i.size = 0 then none else some fd.offset
      | none => none
    | none => none
  | _ => none
def intTy (P : Program) (t : TypeId) : Option IntKind :=
  match P.underlying t with
  | some (.int k) => some k
  | _ => none
def callable (P : Program) (f : FuncId) : Bool :=
  match P.funcs[f]? with
  | some fn => fn.body.isSome && !(fn.name == "runtime.NumGoroutine")
  | none => false
theorem tyOf_spec {P : Program} {T : TypeId} {g : Bool} {n : Nat} (h : tyOf P T = some (g, n)) : ∃ d i, P.underlying T = some d ∧ P.info? T = some i ∧ aggDesc d = g ∧ i.size = n := by
  unfold tyOf at h
  split at h
  · rename_i d i h1 h2; simp at h; exact ⟨d, i, h1, h2, h.1, h.2⟩
  · cases h
theorem run_isAgg {P : Program} {T : TypeId} {d : TypeDesc} (h : P.underlying T = some d) (w : World) : (isAgg T).run P w = .ok (aggDesc d) w := by
  simp only [isAgg, Sem.run_bind, run_underlying h, Result.andThen_ok]
  cases d <;> rfl
theorem slOf_spec {P : Program} {t e : TypeId} {sz by' : Nat} {z : List Value} (h : slOf P t = some (e, sz, by', z)) :
    ∃ i zv, P.underlying t = some (.slice e) ∧ P.info? e = some i ∧ i.size = sz ∧ i.bytes = by' ∧ i.zero = some zv ∧ zv.cells.toList = z := by
  unfold slOf at h
  split at h
  · rename_i e' h1
    split at h
    · rename_i i h2
      cases hz : i.zero with
      | none => simp [hz] at h
      | some zv =>
        simp [hz] at h
        obtain ⟨rfl, rfl, rfl, rfl⟩ := h
        exact ⟨i, zv, h1, h2, rfl, rfl, hz, rfl⟩
    · cases h
  · cases h

/-! ## One operation -/
section
variable {P : Program} {Q : Exit → Act → World → Prop} {w0 : Ctx} {σ σ' : List Res} {φ φ' : List (Bool × VP)} {fr : Fr} {ops : Array Oper} {rest : List Oper}
  {d : Nat} {ty : TypeId} {pos : String} {aft : Array Edge}

/-- The frame, the resources and the views written anew. -/
theorem JL_done_norm {y : Code} (fr' : Fr) (σ' : List Res) (φ' : List (Bool × VP)) (h1 : fr' = fr) (h2 : σ' = σ) (h3 : φ' = φ) (h : JC P y Q w0 σ' φ' fr') : JL P ops (Then P y Q) w0 σ φ [] fr := by
  subst h1 h2 h3; exact JL_done h
theorem JL_nil_norm (fr' : Fr) (σ' : List Res) (φ' : List (Bool × VP)) (h1 : fr' = fr) (h2 : σ' = σ) (h3 : φ' = φ) (h : JE Q .normal w0 σ' φ' fr') : JL P ops Q w0 σ φ [] fr := by
  subst h1 h2 h3; exact JL_nil h
theorem JL_norm {l : List Oper} (fr' : Fr) (σ' : List Res) (φ' : List (Bool × VP)) (h1 : fr' = fr) (h2 : σ' = σ) (h3 : φ' = φ) (h : JL P ops Q w0 σ' φ' l fr') : JL P ops Q w0 σ φ l fr := by
  subst h1 h2 h3; exact h

theorem wpList_run {o : Oper} {w w' : World} {v : Value} (hg : o.guard = none) (hd : o.dst = some d) (hrun : (execOp (ev fr) o).run P w = .ok (.value v) w')
    (k : wpList P ops Q rest (act (upd fr d v)) w') : wpList P ops Q (o :: rest) (act fr) w := by
  refine wpList_plain hg fun K hK => ?_
  unfold Oper.wp
  rw [act_eval_fun, hrun]
  show K ((act fr).put o.dst v) w'
  rw [hd, act_put]
  exact hK _ _ k
theorem wpList_run0 {o : Oper} {w w' : World} (hg : o.guard = none) (hd : o.dst = none) (hrun : (execOp (ev fr) o).run P w = .ok .skip w')
    (k : wpList P ops Q rest (act fr) w') : wpList P ops Q (o :: rest) (act fr) w := by
  refine wpList_plain hg fun K hK => ?_
  unfold Oper.wp
  rw [act_eval_fun, hrun]
  show K ((act fr).put o.dst undef) w'
  rw [hd, act_put_none]
  exact hK _ _ k
theorem JL_pure {op : Op} (v : Value) (hrun : ∀ w, (execOp (ev fr) ⟨some d, op, ty, pos, aft, none⟩).run P w = .ok (.value v) w)
    (k : JL P ops Q w0 σ φ rest (upd fr d v)) : JL P ops Q w0 σ φ (⟨some d, op, ty, pos, aft, none⟩ :: rest) fr :=
  fun w s => wpList_run rfl rfl (hrun w) (k w s)
theorem JL_pureSt {op : Op} (v : Value) (hrun : ∀ w, St w0 w σ φ → (execOp (ev fr) ⟨some d, op, ty, pos, aft, none⟩).run P w = .ok (.value v) w)
    (k : JL P ops Q w0 σ φ rest (upd fr d v)) : JL P ops Q w0 σ φ (⟨some d, op, ty, pos, aft, none⟩ :: rest) fr :=
  fun w s => wpList_run rfl rfl (hrun w s) (k w s)

theorem JL_move {x : Operand} {v : Value} (hx : Ev fr x v) (k : JL P ops Q w0 σ φ rest (upd fr d v)) : JL P ops Q w0 σ φ (⟨some d, .move x, ty, pos, aft, none⟩ :: rest) fr :=
  JL_pure v (fun w => by simp [execOp, hx.eq]) k
theorem JL_assign {x : Operand} {v : Value} (hx : Ev fr x v) (k : JL P ops Q w0 σ φ rest (upd fr d v)) : JL P ops Q w0 σ φ (⟨some d, .assign x, ty, pos, aft, none⟩ :: rest) fr :=
  JL_pure v (fun w => by simp [execOp, hx.eq]) k
theorem JL_pick {c x y : Operand} {b : Bool} {u v : Value} (hc : Ev fr c (.bool b)) (hx : Ev fr x u) (hy : Ev fr y v) (k : JL P ops Q w0 σ φ rest (upd fr d (bif b then u else v))) :
    JL P ops Q w0 σ φ (⟨some d, .pick c x y, ty, pos, aft, none⟩ :: rest) fr :=
  JL_pure _ (fun w => by cases b <;> simp [execOp, hx.eq, hy.eq, hc.eq, asBool]) k
theorem JL_pick_t {c x y : Operand} {u : Value} (hc : Ev fr c (.bool true)) (hx : Ev fr x u) (k : JL P ops Q w0 σ φ rest (upd fr d u)) :
    JL P ops Q w0 σ φ (⟨some d, .pick c x y, ty, pos, aft, none⟩ :: rest) fr :=
  JL_pure _ (fun w => by simp [execOp, hx.eq, hc.eq, asBool]) k
theorem JL_pick_f {c x y : Operand} {u : Value} (hc : Ev fr c (.bool false)) (hx : Ev fr y u) (k : JL P ops Q w0 σ φ rest (upd fr d u)) :
    JL P ops Q w0 σ φ (⟨some d, .pick c x y, ty, pos, aft, none⟩ :: rest) fr :=
  JL_pure _ (fun w => by simp [execOp, hx.eq, hc.eq, asBool]) k

/-! ### Guards -/
theorem lt_of_bool {t : Nat} {b : Bool} (h : Lk fr t (.bool b)) : t < fr.n := by
  unfold Lk at h
  cases hb : Nat.blt t fr.n with
  | true => exact blt_lt hb
  | false => rw [hb] at h; exact absurd (show Value.bool b = undef from h) (by intro h'; cases h')
theorem wanted_of {o : Oper} {j t : Nat} {want b : Bool} (hg : o.guard = some (j, want)) (hj : (ops[j]?).bind (·.dst) = some t) (hb : Lk fr t (.bool b)) :
    Region.wanted o (yielded ops (act fr).tmps) = (b == want) := by
  have hlt := lt_of_bool hb
  have h1 : (act fr).tmps[t]? = some (.bool b) := by rw [look_get? hlt, hb.eq]
  simp only [Region.wanted, hg, yielded, hj, Option.bind_some, h1]
  cases b <;> cases want <;> rfl
theorem JL_guard_yes {op : Op} {dst : Option Nat} {j t : Nat} {want : Bool} (hj : (ops[j]?).bind (·.dst) = some t) (hb : Lk fr t (.bool want))
    (k : JL P ops Q w0 σ φ (⟨dst, op, ty, pos, aft, none⟩ :: rest) fr) : JL P ops Q w0 σ φ (⟨dst, op, ty, pos, aft, some (j, want)⟩ :: rest) fr := by
  intro w s
  have h := k w s
  have hw := wanted_of (o := ⟨dst, op, ty, pos, aft, some (j, want)⟩) (ops := ops) rfl hj hb
  unfold wpList at h ⊢
  rw [if_pos (by rw [hw]; simp)]
  rw [if_pos (by simp [Region.wanted])] at h
  exact h
theorem JL_guard_no {op : Op} {j t : Nat} {want : Bool} (hj : (ops[j]?).bind (·.dst) = some t) (hb : Lk fr t (.bool (!want)))
    (k : JL P ops Q w0 σ φ rest (upd fr d undef)) : JL P ops Q w0 σ φ (⟨some d, op, ty, pos, aft, some (j, want)⟩ :: rest) fr := by
  intro w s
  have h := k w s
  have hw := wanted_of (o := ⟨some d, op, ty, pos, aft, some (j, want)⟩) (ops := ops) rfl hj hb
  unfold wpList
  rw [if_neg (by rw [hw]; simp)]
  rw [act_put]
  exact h

/-! ### Numbers -/
theorem ev2 {x y : Operand} {u v : Value} (hx : Ev fr x u) (hy : Ev fr y v) : ev fr x = u ∧ ev fr y = v := ⟨hx.eq, hy.eq⟩
section
variable {t t' : TypeId} {x y : Operand} {k k' : IntKind} {a b : Int}
theorem JL_add (hx : Ev fr x (.int k a)) (hy : Ev fr y (.int k b)) (n : JL P ops Q w0 σ φ rest (upd fr d (.int k (k.wrap (a + b))))) : JL P ops Q w0 σ φ (⟨some d, .binOp .add t x y t', ty, pos, aft, none⟩ :: rest) fr :=
  JL_pure _ (fun w => by simp [execOp, hx.eq, hy.eq, binOp, eqGuard, Op.intArith]) n
theorem JL_sub (hx : Ev fr x (.int k a)) (hy : Ev fr y (.int k b)) (n : JL P ops Q w0 σ φ rest (upd fr d (.int k (k.wrap (a - b))))) : JL P ops Q w0 σ φ (⟨some d, .binOp .sub t x y t', ty, pos, aft, none⟩ :: rest) fr :=
  JL_pure _ (fun w => by simp [execOp, hx.eq, hy.eq, binOp, eqGuard, Op.intArith]) n
theorem JL_mul (hx : Ev fr x (.int k a)) (hy : Ev fr y (.int k b)) (n : JL P ops Q w0 σ φ rest (upd fr d (.int k (k.wrap (a * b))))) : JL P ops Q w0 σ φ (⟨some d, .binOp .mul t x y t', ty, pos, aft, none⟩ :: rest) fr :=
  JL_pure _ (fun w => by simp [execOp, hx.eq, hy.eq, binOp, eqGuard, Op.intArith]) n
theorem JL_quo (hx : Ev fr x (.int k a)) (hy : Ev fr y (.int k b)) (hb : b ≠ 0) (n : JL P ops Q w0 σ φ rest (upd fr d (.int k (k.wrap (a.tdiv b))))) : JL P ops Q w0 σ φ (⟨some d, .binOp .quo t x y t', ty, pos, aft, none⟩ :: rest) fr :=
  JL_pure _ (fun w => by simp [execOp, hx.eq, hy.eq, binOp, eqGuard, Op.intDiv, hb]) n
theorem JL_rem (hx : Ev fr x (.int k a)) (hy : Ev fr y (.int k b)) (hb : b ≠ 0) (n : JL P ops Q w0 σ φ rest (upd fr d (.int k (a.tmod b)))) : JL P ops Q w0 σ φ (⟨some d, .binOp .rem t x y t', ty, pos, aft, none⟩ :: rest) fr :=
  JL_pure _ (fun w => by simp [execOp, hx.eq, hy.eq, binOp, eqGuard, Op.intDiv, hb]) n
/-- The same, the result named: c is what the wrap comes to. -/
theorem JL_add_to {c : Int} (hx : Ev fr x (.int k a)) (hy : Ev fr y (.int k b)) (hc : k.wrap (a + b) = c) (n : JL P ops Q w0 σ φ rest (upd fr d (.int k c))) : JL P ops Q w0 σ φ (⟨some d, .binOp .add t x y t', ty, pos, aft, none⟩ :: rest) fr := JL_add hx hy (hc ▸ n)
theorem JL_sub_to {c : Int} (hx : Ev fr x (.int k a)) (hy : Ev fr y (.int k b)) (hc : k.wrap (a - b) = c) (n : JL P ops Q w0 σ φ rest (upd fr d (.int k c))) : JL P ops Q w0 σ φ (⟨some d, .binOp .sub t x y t', ty, pos, aft, none⟩ :: rest) fr := JL_sub hx hy (hc ▸ n)
theorem JL_mul_to {c : Int} (hx : Ev fr x (.int k a)) (hy : Ev fr y (.int k b)) (hc : k.wrap (a * b) = c) (n : JL P ops Q w0 σ φ rest (upd fr d (.int k c))) : JL P ops Q w0 σ φ (⟨some d, .binOp .mul t x y t', ty, pos, aft, none⟩ :: rest) fr := JL_mul hx hy (hc ▸ n)
theorem JL_quo_to {c : Int} (hx : Ev fr x (.int k a)) (hy : Ev fr y (.int k b)) (hb : b ≠ 0) (hc : k.wrap (a.tdiv b) = c) (n : JL P ops Q w0 σ φ rest (upd fr d (.int k c))) : JL P ops Q w0 σ φ (⟨some d, .binOp .quo t x y t', ty, pos, aft, none⟩ :: rest) fr := JL_quo hx hy hb (hc ▸ n)
theorem JL_rem_to {c : Int} (hx : Ev fr x (.int k a)) (hy : Ev fr y (.int k b)) (hb : b ≠ 0) (hc : a.tmod b = c) (n : JL P ops Q w0 σ φ rest (upd fr d (.int k c))) : JL P ops Q w0 σ φ (⟨some d, .binOp .rem t x y t', ty, pos, aft, none⟩ :: rest) fr := JL_rem hx hy hb (hc ▸ n)

theorem JL_lss (hx : Ev fr x (.int k a)) (hy : Ev fr y (.int k b)) (n : JL P ops Q w0 σ φ rest (upd fr d (.bool (decide (a < b))))) : JL P ops Q w0 σ φ (⟨some d, .binOp .lss t x y t', ty, pos, aft, none⟩ :: rest) fr :=
  JL_pure _ (fun w => by simp [execOp, hx.eq, hy.eq, binOp, eqGuard, Op.intCmp]) n
theorem JL_leq (hx : Ev fr x (.int k a)) (hy : Ev fr y (.int k b)) (n : JL P ops Q w0 σ φ rest (upd fr d (.bool (decide (a ≤ b))))) : JL P ops Q w0 σ φ (⟨some d, .binOp .leq t x y t', ty, pos, aft, none⟩ :: rest) fr :=
  JL_pure _ (fun w => by simp [execOp, hx.eq, hy.eq, binOp, eqGuard, Op.intCmp]) n
theorem JL_gtr (hx : Ev fr x (.int k a)) (hy : Ev fr y (.int k b)) (n : JL P ops Q w0 σ φ rest (upd fr d (.bool (decide (b < a))))) : JL P ops Q w0 σ φ (⟨some d, .binOp .gtr t x y t', ty, pos, aft, none⟩ :: rest) fr :=
  JL_pure _ (fun w => by simp [execOp, hx.eq, hy.eq, binOp, eqGuard, Op.intCmp]) n
theorem JL_geq (hx : Ev fr x (.int k a)) (hy : Ev fr y (.int k b)) (n : JL P ops Q w0 σ φ rest (upd fr d (.bool (decide (b ≤ a))))) : JL P ops Q w0 σ φ (⟨some d, .binOp .geq t x y t', ty, pos, aft, none⟩ :: rest) fr :=
  JL_pure _ (fun w => by simp [execOp, hx.eq, hy.eq, binOp, eqGuard, Op.intCmp]) n
theorem JL_eql (hx : Ev fr x (.int k a)) (hy : Ev fr y (.int k b)) (n : JL P ops Q w0 σ φ rest (upd fr d (.bool (decide (a = b))))) : JL P ops Q w0 σ φ (⟨some d, .binOp .eql t x y t', ty, pos, aft, none⟩ :: rest) fr :=
  JL_pure _ (fun w => by simp [execOp, hx.eq, hy.eq, binOp, eqGuard, Op.intCmp]; rfl) n
theorem JL_neq (hx : Ev fr x (.int k a)) (hy : Ev fr y (.int k b)) (n : JL P ops Q w0 σ φ rest (upd fr d (.bool (decide (a ≠ b))))) : JL P ops Q w0 σ φ (⟨some d, .binOp .neq t x y t', ty, pos, aft, none⟩ :: rest) fr :=
  JL_pure _ (fun w => by simp [execOp, hx.eq, hy.eq, binOp, eqGuard, Op.intCmp, bne]; rfl) n
theorem JL_split {p : Prop} [Decidable p] {l : List Oper} (ht : p → JL P ops Q w0 σ φ l (upd fr d (.bool true))) (hf : ¬ p → JL P ops Q w0 σ φ l (upd fr d (.bool false))) : JL P ops Q w0 σ φ l (upd fr d (.bool (decide p))) := by
  by_cases h : p
  · rw [decide_eq_true h]; exact ht h
  · rw [decide_eq_false h]; exact hf h
theorem JL_eqlB {a b : Bool} (hi : P.underlying t = some .bool) (hx : Ev fr x (.bool a)) (hy : Ev fr y (.bool b)) (n : JL P ops Q w0 σ φ rest (upd fr d (.bool (a == b)))) : JL P ops Q w0 σ φ (⟨some d, .binOp .eql t x y t', ty, pos, aft, none⟩ :: rest) fr :=
  JL_pure _ (fun w => by
    simp only [execOp, hx.eq, hy.eq, eqGuard_at_bool, Sem.run_bind, Sem.run_pure, run_eql_bool _ _ _ _ hi, Result.andThen_ok]) n
theorem JL_neqB {a b : Bool} (hi : P.underlying t = some .bool) (hx : Ev fr x (.bool a)) (hy : Ev fr y (.bool b)) (n : JL P ops Q w0 σ φ rest (upd fr d (.bool (a != b)))) : JL P ops Q w0 σ φ (⟨some d, .binOp .neq t x y t', ty, pos, aft, none⟩ :: rest) fr :=
  JL_pure _ (fun w => by
    simp only [execOp, hx.eq, hy.eq, eqGuard_at_bool, Sem.run_bind, Sem.run_pure, run_neq_bool _ _ _ _ hi, Result.andThen_ok]; rfl) n
theorem JL_not {a : Bool} (hx : Ev fr x (.bool a)) (n : JL P ops Q w0 σ φ rest (upd fr d (.bool (!a)))) : JL P ops Q w0 σ φ (⟨some d, .unOp .not t x, ty, pos, aft, none⟩ :: rest) fr :=
  JL_pure _ (fun w => by simp [execOp, hx.eq, Op.unary]) n
theorem JL_neg_to {c : Int} (hx : Ev fr x (.int k a)) (hc : k.wrap (0 - a) = c) (n : JL P ops Q w0 σ φ rest (upd fr d (.int k c))) : JL P ops Q w0 σ φ (⟨some d, .unOp .neg t x, ty, pos, aft, none⟩ :: rest) fr :=
  JL_pure _ (fun w => by simp [execOp, hx.eq, Op.unary, Op.intArith]; simpa using hc) n
theorem JL_convInt {c : Int} (hs : (P.underlying t).isSome = true) (hd : intTy P t' = some k') (hx : Ev fr x (.int k a)) (hc : k'.wrap a = c) (n : JL P ops Q w0 σ φ rest (upd fr d (.int k' c))) :
    JL P ops Q w0 σ φ (⟨some d, .convert t t' x, ty, pos, aft, none⟩ :: rest) fr := by
  have hd' : P.underlying t' = some (.int k') := by
    unfold intTy at hd
    split at hd
    · rename_i h; simp at hd; rw [h, hd]
    · cases hd
  obtain ⟨ds, hs'⟩ := Option.isSome_iff_exists.mp hs
  subst hc
  exact JL_pure _ (fun w => by simp [execOp, hx.eq, convert, run_underlying hd', run_underlying hs', Conv.intToInt]) n
end
end
end Go.Fw

/- The program logic's rules for operations that read and write memory. -/
namespace Go.Fw
open Go Go.RowKit

def NthL (cs : List Value) : Nat → List Value → Prop
  | _, [] => True
  | o, v :: l => Nth cs o v ∧ NthL cs (o + 1) l
def setAll : List Value → Nat → List Value → List Value
  | cs, _, [] => cs
  | cs, o, v :: l => setAll (updL cs o v) (o + 1) l
theorem NthL.get {cs : List Value} : ∀ {vs : List Value} {o : Nat}, NthL cs o vs → ∀ (j : Nat) (v : Value), vs[j]? = some v → cs[o + j]? = some v
  | [], _, _, j, v, hj => by simp at hj
  | u :: l, o, h, j, v, hj => by
    cases j with
    | zero => simp at hj; subst hj; exact h.1.get
    | succ j => have := NthL.get (vs := l) (o := o + 1) h.2 j v (by simpa using hj); rw [show o + (j + 1) = o + 1 + j from by omega]; exact this
theorem length_setAll : ∀ (vs cs : List Value) (o : Nat), (setAll cs o vs).length = cs.length
  | [], _, _ => rfl
  | v :: l, cs, o => by rw [setAll, length_setAll l, updL_set, List.length_set]
theorem setAll_get : ∀ (vs cs : List Value) (o j : Nat), o + vs.length ≤ cs.length →
    (setAll cs o vs)[j]? = if o ≤ j ∧ j < o + vs.length then vs[j - o]? else cs[j]?
  | [], cs, o, j, h => by rw [setAll, if_neg (by simp)]
  | v :: l, cs, o, j, h => by
    simp only [List.length_cons] at h
    rw [setAll, setAll_get l (updL cs o v) (o + 1) j (by rw [updL_set, List.length_set]; omega)]
    by_cases h1 : j = o
    · subst h1
      rw [if_neg (by omega), if_pos (by simp), updL_set, List.getElem?_set_self (by omega)]
      simp
    · by_cases h2 : o + 1 ≤ j ∧ j < o + 1 + l.length
      · rw [if_pos h2, if_pos (by simp; omega)]
        obtain ⟨m, rfl⟩ : ∃ m, j = o + 1 + m := ⟨j - (o + 1), by omega⟩
        rw [show o + 1 + m - (o + 1) = m from by omega, show o + 1 + m - o = m + 1 from by omega]
        simp
      · rw [if_neg h2, if_neg (by simp; omega), updL_set, List.getElem?_set_ne (by omega)]
theorem setAll_splice (vs cs : List Value) (o : Nat) (h : o + vs.length ≤ cs.length) : setAll cs o vs = cs.take o ++ vs ++ cs.drop (o + vs.length) := by
  apply List.ext_getElem?
  intro j
  rw [setAll_get vs cs o j h]
  rw [List.append_assoc, List.getElem?_append, List.length_take]
  have hmin : min o cs.length = o := by omega
  rw [hmin]
  by_cases h1 : j < o
  · rw [if_neg (by omega), if_pos h1, List.getElem?_take, if_pos h1]
  · rw [if_neg h1, List.getElem?_append]
    by_cases h2 : j < o + vs.length
    · rw [if_pos (by omega), if_pos (by omega)]
    · rw [if_neg (by omega), if_neg (by omega), List.getElem?_drop]
      congr 1
      omega

/-- The address of cell k behind ad. -/
def ptrAt (ad : Option Addr) (k : Nat) : Value := .pointer (ad.map fun a => a.add k)
theorem add_lit' (b o n : Nat) : Addr.add ⟨b, o, none⟩ n = ⟨b, o + n, none⟩ := Addr.add_lit b o n

section
variable {P : Program} {Q : Exit → Act → World → Prop} {w0 : Ctx} {σ σ' : List Res} {φ φ' : List (Bool × VP)} {fr : Fr} {ops : Array Oper} {rest : List Oper}
  {d : Nat} {ty : TypeId} {pos : String} {aft : Array Edge}

theorem below_alloc (w : World) (o : Obj) : Below w.heap.size w (w.alloc o) := (Below.refl _ _).alloc (Nat.le_refl _) o
theorem St.addBox {w : World} (s : St w0 w σ φ) (T : TypeId) (vs : List Value) : St w0 (w.alloc (.cells vs.toArray T (0, 0))) (σ ++ [box w.heap.size T vs]) φ :=
  s.addRes (box w.heap.size T vs) (below_alloc w _) (heap_alloc_new w _) (fun k hk => by simp [box] at hk; omega)
theorem JL_box {T : TypeId} {x : Operand} {v : Value} {vs : List Value} (hx : Ev fr x v) (hc : v.cells = vs.toArray)
    (k : ∀ b, JL P ops Q w0 (σ ++ [box b T vs]) φ rest (upd fr d (.pointer (some ⟨b, 0, none⟩)))) : JL P ops Q w0 σ φ (⟨some d, .box T x, ty, pos, aft, none⟩ :: rest) fr :=
  fun w s => wpList_run rfl rfl (v := .pointer (some ⟨w.heap.size, 0, none⟩)) (w' := w.alloc (.cells vs.toArray T (0, 0)))
    (by simp [execOp, hx.eq, Instr.box, newVar, newRow, hc]) (k w.heap.size _ (s.addBox T vs))
theorem JL_alloc {T : TypeId} {zs : List Value} (hz : zeroOf P T = some zs)
    (k : ∀ b, JL P ops Q w0 (σ ++ [box b T zs]) φ rest (upd fr d (.pointer (some ⟨b, 0, none⟩)))) : JL P ops Q w0 σ φ (⟨some d, .alloc T, ty, pos, aft, none⟩ :: rest) fr := by
  intro w s
  unfold zeroOf at hz
  cases hi : P.info? T with
  | none => simp [hi] at hz
  | some i =>
    cases hzv : i.zero with
    | none => simp [hi, hzv] at hz
    | some zv =>
      simp [hi, hzv] at hz
      refine wpList_run rfl rfl (v := .pointer (some ⟨w.heap.size, 0, none⟩)) (w' := w.alloc (.cells zs.toArray T (0, 0))) ?_ (k w.heap.size _ (s.addBox T zs))
      simp [execOp, Instr.alloc, newVar, newRow, zeroValue, typeInfo, hi, hzv, ← hz]

theorem run_loadVar_one {T : TypeId} {n : Nat} (hT : tyOf P T = some (false, n)) {w : World} {a : Addr} {v : Value} (hc : w.cell? a = some v) : (loadVar T a).run P w = .ok v w := by
  obtain ⟨ds, i, h1, h2, h3, h4⟩ := tyOf_spec hT
  simp [loadVar, run_isAgg h1, h3, hc]
theorem run_loadVar_agg {T : TypeId} {w : World} {a : Addr} {vs : List Value} (hT : tyOf P T = some (true, vs.length)) (hc : ∀ j v, vs[j]? = some v → w.cell? (a.add j) = some v) : (loadVar T a).run P w = .ok (.agg vs.toArray) w := by
  obtain ⟨ds, i, h1, h2, h3, h4⟩ := tyOf_spec hT
  simp only [loadVar, Sem.run_bind, run_isAgg h1, h3, Result.andThen_ok, if_true, sizeOf, typeInfo, run_program, h2, Sem.run_pure, h4, run_loadCells_list w a vs hc]
theorem cell_box {w : World} {b : Nat} {T : TypeId} {cs : List Value} (h : (box b T cs).holds w) (o : Nat) : w.cell? ⟨b, o, none⟩ = cs[o]? := by
  rw [cell_of_row w b o cs.toArray T (0, 0) h]; simp

theorem JL_load {T T' : TypeId} {x : Operand} {b o n : Nat} {cs : List Value} {v : Value} (i : Nat) (hT : tyOf P T = some (false, n)) (hx : Ev fr x (.pointer (some ⟨b, o, none⟩))) (hσ : Nth σ i (box b T' cs)) (hv : Nth cs o v)
    (k : JL P ops Q w0 σ φ rest (upd fr d v)) : JL P ops Q w0 σ φ (⟨some d, .load T x, ty, pos, aft, none⟩ :: rest) fr :=
  JL_pureSt v (fun w s => by
    have hc := (cell_box (s.own _ hσ.mem) o).trans hv.get
    simp [execOp, hx.eq, Instr.loadAt, Instr.sureAddr, run_loadVar_one hT hc]) k
theorem JL_loadA {T T' : TypeId} {x : Operand} {b o : Nat} {cs vs : List Value} (i : Nat) (hT : tyOf P T = some (true, vs.length)) (hx : Ev fr x (.pointer (some ⟨b, o, none⟩))) (hσ : Nth σ i (box b T' cs)) (hv : NthL cs o vs)
    (k : JL P ops Q w0 σ φ rest (upd fr d (.agg vs.toArray))) : JL P ops Q w0 σ φ (⟨some d, .load T x, ty, pos, aft, none⟩ :: rest) fr :=
  JL_pureSt _ (fun w s => by
    have hc : ∀ j u, vs[j]? = some u → w.cell? (Addr.add ⟨b, o, none⟩ j) = some u := fun j u hj => by
      rw [add_lit', cell_box (s.own _ hσ.mem) (o + j)]; exact hv.get j u hj
    simp [execOp, hx.eq, Instr.loadAt, Instr.sureAddr, run_loadVar_agg hT hc]) k

def AllOne (vs : List Value) : Prop := ∀ v ∈ vs, v.oneCell' = true
theorem AllOne.nil : AllOne [] := fun _ h => by cases h
theorem AllOne.cons {v : Value} {vs : List Value} (h : v.oneCell' = true) (h' : AllOne vs) : AllOne (v :: vs) := fun u hu => by
  rcases List.mem_cons.1 hu with rfl | hu
  · exact h
  · exact h' u hu
theorem run_storeVar_box {T T' : TypeId} {g : Bool} {b o : Nat} {cs vs : List Value} {v : Value} {w : World} (hT : tyOf P T = some (g, vs.length)) (hc : v.cells = vs.toArray) (h1 : AllOne vs) (hb : (box b T' cs).holds w) (hlen : o + vs.length ≤ cs.length) :
    (storeVar T ⟨b, o, none⟩ v).run P w = .ok () (w.setRow b (setAll cs o vs).toArray) := by
  obtain ⟨ds, i, hu, hi, h3, h4⟩ := tyOf_spec hT
  have hst := run_storeCells_at P b o T' vs 0 cs.toArray w hb (by simpa using hlen) h1
  simp only [Nat.add_zero] at hst
  rw [setAll_splice vs cs o hlen]
  simp [storeVar, sizeOf, typeInfo, hi, h4, hc, hst]
theorem St.setBox {w : World} (s : St w0 w σ φ) {i b : Nat} {T : TypeId} {cs : List Value} (cs' : List Value) (hσ : Nth σ i (box b T cs)) : St w0 (w.setRow b cs'.toArray) (updL σ i (box b T cs')) φ := by
  rw [updL_set]
  have hb : (box b T cs).holds w := s.own _ hσ.mem
  refine s.setRes i (box b T cs) (box b T cs') hσ.get (by simp [World.setRow]) rfl rfl rfl ?_ (setRow_heap w b _ _ _ _ hb) (fun k hk => .inl hk)
  intro k _ hne
  exact setRow_other w b k _ (fun e => hne (by simp [box, e]))
theorem JL_store {T T' : TypeId} {x y : Operand} {g : Bool} {b o : Nat} {cs vs : List Value} {v : Value} (i : Nat) (hT : tyOf P T = some (g, vs.length)) (hx : Ev fr x (.pointer (some ⟨b, o, none⟩))) (hy : Ev fr y v) (hc : v.cells = vs.toArray) (h1 : AllOne vs)
    (hσ : Nth σ i (box b T' cs)) (hlen : o + vs.length ≤ cs.length) (k : JL P ops Q w0 (updL σ i (box b T' (setAll cs o vs))) φ rest fr) : JL P ops Q w0 σ φ (⟨none, .store T x y, ty, pos, aft, none⟩ :: rest) fr :=
  fun w s => wpList_run0 rfl rfl (w' := w.setRow b (setAll cs o vs).toArray)
    (by simp [execOp, hx.eq, hy.eq, Instr.storeAt, Instr.sureAddr, run_storeVar_box hT hc h1 (s.own _ hσ.mem) hlen]) (k _ (s.setBox _ hσ))

theorem JL_fieldAddr {s : TypeId} {x : Operand} {f b o off : Nat} (hf : fOf P s f = some off) (hx : Ev fr x (.pointer (some ⟨b, o, none⟩)))
    (k : JL P ops Q w0 σ φ rest (upd fr d (.pointer (some ⟨b, o + off, none⟩)))) : JL P ops Q w0 σ φ (⟨some d, .fieldAddr s x f, ty, pos, aft, none⟩ :: rest) fr := by
  refine JL_pure _ (fun w => ?_) k
  unfold fOf at hf
  split at hf
  · rename_i fields hu
    split at hf
    · rename_i fd hfd
      split at hf
      · rename_i i hi
        split at hf
        · cases hf
        · rename_i hne
          simp at hf
          subst hf
          simp [execOp, hx.eq, Instr.fieldAt, run_underlying hu, hfd, Instr.sureAddr, fieldPlace, sizeOf, typeInfo, hi, hne, add_lit']
      · cases hf
    · cases hf
  · cases hf

/-! ### Elements of slices -/
theorem CellsAt.some {X : Nat → Prop} {w : World} {ad : Option Addr} {xs : List Value} {j : Nat} {u : Value} (h : CellsAt X w ad xs) (hj : xs[j]? = some u) :
    ∃ a, ad = some a ∧ w.cell? (a.add j) = some u := by
  obtain ⟨b, o, he, _, hc⟩ := h j u hj
  exact ⟨_, he, by rw [add_lit']; exact hc⟩
theorem own_cells {w : World} {ad : Option Addr} {n cap sz : Nat} {E : TypeId} {xs : List Value} (h : (osl ad n cap E sz xs).holds w) : CellsAt (fun k => ad.map (·.block) ≠ some k) w ad xs := by
  intro j u hj
  rcases h.2 with ⟨hv, hn⟩ | ⟨g, cap', cur, hv, _, hgg, _, _, _, htake⟩
  · have := h.1; rw [hn, Nat.zero_mul] at this; rw [List.eq_nil_of_length_eq_zero this] at hj; simp at hj
  · simp only [Value.slice.injEq] at hv
    obtain ⟨rfl, _, _⟩ := hv
    refine ⟨g, 0, rfl, by simp, ?_⟩
    rw [cell_of_row w g (0 + j) cur E (0, 0) hgg]
    rw [← htake, List.getElem?_take] at hj
    split at hj
    · simpa using hj
    · cases hj
/-- Where the elements of a slice lie: in a view, or in an own resource. -/
def Reads (w0 : Ctx) (σ : List Res) (φ : List (Bool × VP)) (ad : Option Addr) (xs : List Value) : Prop := ∀ w, St w0 w σ φ → ∃ X, CellsAt X w ad xs
theorem Reads.view {ad : Option Addr} {xs : List Value} {f : Bool} (h : (f, vCells ad xs) ∈ φ) : Reads w0 σ φ ad xs := fun _ s => ⟨_, s.views _ h⟩
theorem Reads.own {ad : Option Addr} {n cap sz : Nat} {E : TypeId} {xs : List Value} (i : Nat) (h : Nth σ i (osl ad n cap E sz xs)) : Reads w0 σ φ ad xs := fun _ s => ⟨_, own_cells (s.own _ h.mem)⟩

theorem JL_indexAddr {t e : TypeId} {x y : Operand} {ad : Option Addr} {len cap sz by' : Nat} {z : List Value} {kk : IntKind} {a : Int} {xs : List Value} (k : Nat) (hs : slOf P t = some (e, sz, by', z)) (hx : Ev fr x (.slice ad len cap)) (hy : Ev fr y (.int kk a))
    (ha : a = (k : Int)) (hk : k < len) (hr : Reads w0 σ φ ad xs) (hlt : k * sz < xs.length)
    (n : JL P ops Q w0 σ φ rest (upd fr d (ptrAt ad (k * sz)))) : JL P ops Q w0 σ φ (⟨some d, .indexAddr t x y, ty, pos, aft, none⟩ :: rest) fr := by
  refine JL_pureSt _ (fun w s => ?_) n
  obtain ⟨i, zv, hu, hi, h1, h2, h3, h4⟩ := slOf_spec hs
  obtain ⟨X, hc⟩ := hr w s
  obtain ⟨adr, rfl, _⟩ := hc.some (List.getElem?_eq_getElem hlt)
  subst ha
  simp [execOp, hx.eq, hy.eq, Instr.indexAt, run_underlying hu, asIntOf, sizeOf, typeInfo, hi, h1, hk, ptrAt]
theorem JL_loadE {T : TypeId} {x : Operand} {ad : Option Addr} {j n : Nat} {xs : List Value} {v : Value} (hT : tyOf P T = some (false, n)) (hx : Ev fr x (ptrAt ad j)) (hr : Reads w0 σ φ ad xs) (hv : xs[j]? = some v)
    (k : JL P ops Q w0 σ φ rest (upd fr d v)) : JL P ops Q w0 σ φ (⟨some d, .load T x, ty, pos, aft, none⟩ :: rest) fr := by
  refine JL_pureSt v (fun w s => ?_) k
  obtain ⟨X, hc⟩ := hr w s
  obtain ⟨a, rfl, hcell⟩ := hc.some hv
  have he : ev fr x = .pointer (some (a.add j)) := hx.eq
  simp [execOp, he, Instr.loadAt, Instr.sureAddr, run_loadVar_one hT hcell]
theorem JL_loadEA {T : TypeId} {x : Operand} {ad : Option Addr} {j : Nat} {xs vs : List Value} (hT : tyOf P T = some (true, vs.length)) (hne : 0 < vs.length) (hx : Ev fr x (ptrAt ad j)) (hr : Reads w0 σ φ ad xs) (hv : ∀ m v, vs[m]? = some v → xs[j + m]? = some v)
    (k : JL P ops Q w0 σ φ rest (upd fr d (.agg vs.toArray))) : JL P ops Q w0 σ φ (⟨some d, .load T x, ty, pos, aft, none⟩ :: rest) fr := by
  refine JL_pureSt _ (fun w s => ?_) k
  obtain ⟨X, hc⟩ := hr w s
  obtain ⟨b, o, rfl, _, _⟩ := hc (j + 0) _ (hv 0 _ (List.getElem?_eq_getElem hne))
  have he : ev fr x = .pointer (some ⟨b, o + j, none⟩) := by rw [hx.eq]; simp [ptrAt, add_lit']
  have hcs : ∀ m u, vs[m]? = some u → w.cell? (Addr.add ⟨b, o + j, none⟩ m) = some u := fun m u hm => by
    obtain ⟨b', o', he', _, hc'⟩ := hc (j + m) u (hv m u hm)
    simp at he'
    obtain ⟨rfl, rfl⟩ := he'
    rw [add_lit', Nat.add_assoc]; exact hc'
  simp [execOp, he, Instr.loadAt, Instr.sureAddr, run_loadVar_agg hT hcs]

/-- A store into an owned slice. -/
theorem own_stored {w : World} {ad : Option Addr} {n cap sz : Nat} {E : TypeId} {xs vs : List Value} {j : Nat} (h : (osl ad n cap E sz xs).holds w) (hj : j + vs.length ≤ xs.length) (hpos : 0 < xs.length) :
    ∃ g cur, ad = some ⟨g, 0, none⟩ ∧ w.heap[g]? = some (.cells cur.toArray E (0, 0)) ∧ j + vs.length ≤ cur.length ∧
      ∀ w', w'.heap[g]? = some (.cells (setAll cur j vs).toArray E (0, 0)) → (osl ad n cap E sz (setAll xs j vs)).holds w' := by
  rcases h.2 with ⟨hv, hn⟩ | ⟨g, cap', cur, hv, hb, hgg, hnc, hcm, hcs, htake⟩
  · have := h.1; rw [hn, Nat.zero_mul] at this; omega
  · have hv0 := hv
    simp only [Value.slice.injEq] at hv
    obtain ⟨rfl, _, hcap⟩ := hv
    have hlen := h.1
    have hle : xs.length ≤ cur.size := by rw [hlen, hcs]; exact Nat.mul_le_mul_right _ hnc
    refine ⟨g, cur.toList, rfl, by simpa using hgg, by simp; omega, fun w' hw' => ⟨by rw [length_setAll]; exact hlen, .inr ⟨g, cap', _, hv0, hb, hw', hnc, hcm, ?_, ?_⟩⟩⟩
    · simp [length_setAll, hcs]
    · have hx : ∀ m, m < n * sz → xs[m]? = cur.toList[m]? := fun m hm => by rw [← htake, List.getElem?_take, if_pos hm]
      apply List.ext_getElem?
      intro m
      rw [List.getElem?_take, setAll_get vs cur.toList j m (by simp; omega), setAll_get vs xs j m hj]
      by_cases hm : m < n * sz
      · rw [if_pos hm, hx m hm]
      · have h2 : ¬ (j ≤ m ∧ m < j + vs.length) := by omega
        rw [if_neg hm, if_neg h2, List.getElem?_eq_none (by omega)]
theorem JL_storeE {T E : TypeId} {x y : Operand} {g : Bool} {ad : Option Addr} {n cap sz j : Nat} {xs vs : List Value} {v : Value} (i : Nat) (hT : tyOf P T = some (g, vs.length)) (hne : 0 < vs.length) (hx : Ev fr x (ptrAt ad j)) (hy : Ev fr y v) (hc : v.cells = vs.toArray) (h1 : AllOne vs)
    (hσ : Nth σ i (osl ad n cap E sz xs)) (hj : j + vs.length ≤ xs.length) (k : JL P ops Q w0 (updL σ i (osl ad n cap E sz (setAll xs j vs))) φ rest fr) : JL P ops Q w0 σ φ (⟨none, .store T x y, ty, pos, aft, none⟩ :: rest) fr := by
  intro w s
  have hown := s.own _ hσ.mem
  obtain ⟨gb, cur, rfl, hgg, hlen, hback⟩ := own_stored (vs := vs) (j := j) hown hj (by omega)
  have he : ev fr x = .pointer (some ⟨gb, j, none⟩) := by rw [hx.eq]; simp [ptrAt, add_lit']
  have hrun := run_storeVar_box (P := P) (T := T) (T' := E) (b := gb) (o := j) (cs := cur) hT hc h1 (w := w) hgg hlen
  refine wpList_run0 rfl rfl (w' := w.setRow gb (setAll cur j vs).toArray) (by simp [execOp, he, hy.eq, Instr.storeAt, Instr.sureAddr, hrun]) (k _ ?_)
  rw [updL_set]
  refine s.setRes i _ _ hσ.get (by simp [World.setRow]) rfl rfl rfl ?_ (hback _ (setRow_heap w gb _ _ _ _ hgg)) (fun k hk => .inl hk)
  intro k _ hne'
  exact setRow_other w gb k _ (fun e => hne' (by simp [osl, Value.ownBlock, e]))
end
end Go.Fw

/-! The program logic's rules for slices that grow or are cut, for calls, and for the end of a function. -/
namespace Go.Fw
open Go Go.RowKit

def subAd (ad : Option Addr) (m l sz : Nat) : Option Addr := if m = l then ad else ad.map fun a => a.add (l * sz)
theorem subAd_zero (ad : Option Addr) (m sz : Nat) : subAd ad m 0 sz = ad := by
  unfold subAd
  split
  · rfl
  · cases ad <;> simp [Addr.add]
def OptIs (fr : Fr) (x : Option Operand) (n : Nat) (dflt : Nat) : Prop :=
  match x with
  | none => n = dflt
  | some y => ∃ k a, Ev fr y (.int k a) ∧ a = (n : Int)
theorem OptIs.none {fr : Fr} {n : Nat} : OptIs fr none n n := rfl
theorem OptIs.some {fr : Fr} {y : Operand} {n dflt : Nat} {k : IntKind} {a : Int} (h : Ev fr y (.int k a)) (ha : a = (n : Int)) : OptIs fr (some y) n dflt := ⟨k, a, h, ha⟩

section
variable {P : Program} {Q : Exit → Act → World → Prop} {w0 : Ctx} {σ σ' : List Res} {φ φ' : List (Bool × VP)} {fr : Fr} {ops : Array Oper} {rest : List Oper}
  {d : Nat} {ty : TypeId} {pos : String} {aft : Array Edge}

theorem run_sliceBound {k : IntKind} {n y : Nat} {code : BoundsCode} (h : n ≤ y) (w : World) : (Instr.sliceBound (.int k (n : Int)) y code).run P w = .ok n w := by
  have h' : ((n : Int) ≤ (y : Int)) := by omega
  simp [Instr.sliceBound, asIntOf, h]
theorem run_sliceAt {t e : TypeId} {sz by' : Nat} {z : List Value} {x : Operand} {lo hi mx : Option Operand} {ad : Option Addr} {len cap l h m : Nat} (hs : slOf P t = some (e, sz, by', z)) (hx : Ev fr x (.slice ad len cap))
    (hlo : OptIs fr lo l 0) (hhi : OptIs fr hi h len) (hmx : OptIs fr mx m cap) (hno : mx = none ∨ hi ≠ none) (h1 : l ≤ h) (h2 : h ≤ m) (h3 : m ≤ cap) (w : World) :
    (Instr.sliceAt t (ev fr x) (lo.map (ev fr)) (hi.map (ev fr)) (mx.map (ev fr))).run P w = .ok (.slice (subAd ad m l sz) (h - l) (m - l)) w := by
  obtain ⟨i, zv, hu, hi', s1, s2, s3, s4⟩ := slOf_spec hs
  have hb : (Instr.sliceBounds true len cap (lo.map (ev fr)) (hi.map (ev fr)) (mx.map (ev fr))).run P w = .ok (l, h, m) w := by
    cases lo with
    | none =>
      simp only [OptIs] at hlo
      subst hlo
      cases mx with
      | none =>
        simp only [OptIs] at hmx
        subst hmx
        cases hi with
        | none =>
          simp only [OptIs] at hhi
          subst hhi
          simp only [Instr.sliceBounds, Option.map_none, Sem.run_bind, Sem.run_pure, Result.andThen_ok]
        | some y =>
          obtain ⟨k, a, hy, rfl⟩ := hhi
          simp only [Instr.sliceBounds, Option.map_none, Option.map_some, hy.eq, Sem.run_bind, Sem.run_pure, Result.andThen_ok, run_sliceBound h2]
      | some y =>
        obtain ⟨k, a, hy, rfl⟩ := hmx
        cases hi with
        | none => simp at hno
        | some y' =>
          obtain ⟨k', a', hy', rfl⟩ := hhi
          simp only [Instr.sliceBounds, Option.map_none, Option.map_some, hy.eq, hy'.eq, Sem.run_bind, Sem.run_pure, Result.andThen_ok, run_sliceBound h2, run_sliceBound h3]
    | some yl =>
      obtain ⟨kl, al, hyl, rfl⟩ := hlo
      cases mx with
      | none =>
        simp only [OptIs] at hmx
        subst hmx
        cases hi with
        | none =>
          simp only [OptIs] at hhi
          subst hhi
          simp only [Instr.sliceBounds, Option.map_none, Option.map_some, hyl.eq, Sem.run_bind, Sem.run_pure, Result.andThen_ok, run_sliceBound h1]
        | some y =>
          obtain ⟨k, a, hy, rfl⟩ := hhi
          simp only [Instr.sliceBounds, Option.map_none, Option.map_some, hyl.eq, hy.eq, Sem.run_bind, Sem.run_pure, Result.andThen_ok, run_sliceBound h1, run_sliceBound h2]
      | some y =>
        obtain ⟨k, a, hy, rfl⟩ := hmx
        cases hi with
        | none => simp at hno
        | some y' =>
          obtain ⟨k', a', hy', rfl⟩ := hhi
          simp only [Instr.sliceBounds, Option.map_some, hyl.eq, hy.eq, hy'.eq, Sem.run_bind, Sem.run_pure, Result.andThen_ok, run_sliceBound h1, run_sliceBound h2, run_sliceBound h3]
  rw [hx.eq]
  simp only [Instr.sliceAt, Sem.run_bind, run_underlying hu, Result.andThen_ok, Instr.slice, hb, sizeOf, typeInfo, run_program, hi', Sem.run_pure, s1, subAd]
theorem JL_slice {t e : TypeId} {sz by' : Nat} {z : List Value} {x : Operand} {lo hi mx : Option Operand} {ad : Option Addr} {len cap : Nat} (l h m : Nat) (hs : slOf P t = some (e, sz, by', z)) (hx : Ev fr x (.slice ad len cap))
    (hlo : OptIs fr lo l 0) (hhi : OptIs fr hi h len) (hmx : OptIs fr mx m cap) (hno : mx = none ∨ hi ≠ none) (h1 : l ≤ h) (h2 : h ≤ m) (h3 : m ≤ cap)
    (k : JL P ops Q w0 σ φ rest (upd fr d (.slice (subAd ad m l sz) (h - l) (m - l)))) : JL P ops Q w0 σ φ (⟨some d, .slice t x lo hi mx, ty, pos, aft, none⟩ :: rest) fr :=
  JL_pure _ (fun w => by
    simp only [execOp, Sem.run_bind, run_sliceAt hs hx hlo hhi hmx hno h1 h2 h3 w, Result.andThen_ok, Sem.run_pure]) k
/-- 's[:h]' -/
theorem JL_sliceTo {t e : TypeId} {sz by' : Nat} {z : List Value} {x y : Operand} {ad : Option Addr} {len cap : Nat} {kk : IntKind} {a : Int} (h : Nat) (hs : slOf P t = some (e, sz, by', z)) (hx : Ev fr x (.slice ad len cap))
    (hy : Ev fr y (.int kk a)) (ha : a = (h : Int)) (h2 : h ≤ cap)
    (k : JL P ops Q w0 σ φ rest (upd fr d (.slice ad h cap))) : JL P ops Q w0 σ φ (⟨some d, .slice t x none (some y) none, ty, pos, aft, none⟩ :: rest) fr := by
  refine JL_slice 0 h cap hs hx .none (.some hy ha) .none (.inl rfl) (Nat.zero_le _) h2 (Nat.le_refl _) ?_
  rw [subAd_zero]; exact k

/-! ### Views and own resources behind a cut, a gift -/
theorem CellsAt.sub {X : Nat → Prop} {w : World} {ad : Option Addr} {xs : List Value} (h : CellsAt X w ad xs) (m l hh sz : Nat) (hm : hh ≤ m) : CellsAt X w (subAd ad m l sz) ((xs.take (hh * sz)).drop (l * sz)) := by
  intro j u hj
  rw [List.getElem?_drop, List.getElem?_take] at hj
  split at hj
  · rename_i hlt
    obtain ⟨b, o, rfl, hX, hc⟩ := h _ _ hj
    have hne : m ≠ l := by
      rintro rfl
      have : hh * sz ≤ m * sz := Nat.mul_le_mul_right _ hm
      omega
    refine ⟨b, o + l * sz, ?_, hX, ?_⟩
    · simp [subAd, hne, add_lit']
    · rw [Nat.add_assoc]; exact hc
  · cases hj
theorem JC_addView {c : Code} {p : VP} {f : Bool} (h : ∀ w, St w0 w σ φ → p.holds (Xof w0 σ f) w) (k : JC P c Q w0 σ ((f, p) :: φ) fr) : JC P c Q w0 σ φ fr := JC_conv (fun w s => s.addView (h w s)) k
theorem JL_addView {l : List Oper} {p : VP} {f : Bool} (h : ∀ w, St w0 w σ φ → p.holds (Xof w0 σ f) w) (k : JL P ops Q w0 σ ((f, p) :: φ) l fr) : JL P ops Q w0 σ φ l fr := JL_conv (fun w s => s.addView (h w s)) k
theorem JE_addView {e : Exit} {p : VP} {f : Bool} (h : ∀ w, St w0 w σ φ → p.holds (Xof w0 σ f) w) (k : JE Q e w0 σ ((f, p) :: φ) fr) : JE Q e w0 σ φ fr := JE_conv (fun w s => s.addView (h w s)) k
theorem St.sub {w : World} (s : St w0 w σ φ) {f : Bool} {ad : Option Addr} {xs : List Value} (h : (f, vCells ad xs) ∈ φ) (m l hh sz : Nat) (hm : hh ≤ m) :
    (vCells (subAd ad m l sz) ((xs.take (hh * sz)).drop (l * sz))).holds (Xof w0 σ f) w := CellsAt.sub (s.views _ h) m l hh sz hm

/-- Own resource i is let go: from now on it is immutable data, in fresh memory. -/
theorem St.give {w : World} {ad : Option Addr} {n cap sz : Nat} {E : TypeId} {xs : List Value} (s : St w0 w σ φ) (i : Nat) (hi : Nth σ i (osl ad n cap E sz xs)) : St w0 w (σ.eraseIdx i) ((true, vCells ad xs) :: φ) := by
  have hilt : i < σ.length := (List.getElem?_eq_some_iff.1 hi.get).1
  have hget : σ[i] = osl ad n cap E sz xs := by have := hi.get; rw [List.getElem?_eq_getElem hilt] at this; simpa using this
  refine (s.dropRes (List.eraseIdx_sublist _ _)).addView ?_
  intro j u hj
  obtain ⟨b, o, rfl, _, hc⟩ := own_cells (s.own _ hi.mem) j u hj
  refine ⟨b, o, rfl, ?_, hc⟩
  have hkey : (osl (some ⟨b, o, none⟩) n cap E sz xs).key = some b := rfl
  rintro (⟨r, hr, hrk⟩ | ⟨_, hlt⟩)
  · obtain ⟨m, hm, rfl⟩ := List.mem_iff_getElem.1 hr
    have hd := List.pairwise_iff_getElem.1 s.dist
    rw [List.getElem_eraseIdx] at hrk
    have hlen : (σ.eraseIdx i).length = σ.length - 1 := List.length_eraseIdx_of_lt hilt
    split at hrk
    · rename_i hmi
      exact hd m i (by omega) hilt hmi b hrk (by rw [hget]; exact hkey)
    · rename_i hmi
      exact hd i (m + 1) hilt (by omega) (by omega) b (by rw [hget]; exact hkey) hrk
  · have := s.fresh _ hi.mem b hkey
    have := w0.hY b hlt
    omega
/-- An owned slice cut short. -/
theorem own_short {w : World} {ad : Option Addr} {n cap sz : Nat} {E : TypeId} {xs : List Value} (h : (osl ad n cap E sz xs).holds w) (m : Nat) (hm : m ≤ n) : (osl ad m cap E sz (xs.take (m * sz))).holds w := by
  have hmn : m * sz ≤ n * sz := Nat.mul_le_mul_right _ hm
  refine ⟨by rw [List.length_take, h.1]; omega, ?_⟩
  rcases h.2 with ⟨hv, hn⟩ | ⟨g, cap', cur, hv, hb, hgg, hnc, hcm, hcs, htake⟩
  · simp only [Value.slice.injEq] at hv
    obtain ⟨rfl, rfl, rfl⟩ := hv
    obtain rfl : m = 0 := by omega
    exact .inl ⟨rfl, rfl⟩
  · simp only [Value.slice.injEq] at hv
    obtain ⟨rfl, _, rfl⟩ := hv
    refine .inr ⟨g, cap, cur, rfl, hb, hgg, by omega, hcm, hcs, ?_⟩
    rw [← htake, List.take_take]
    congr 1
    omega
theorem St.short {w : World} {ad : Option Addr} {n cap sz : Nat} {E : TypeId} {xs : List Value} (s : St w0 w σ φ) (i m : Nat) (hi : Nth σ i (osl ad n cap E sz xs)) (hm : m ≤ n) : St w0 w (updL σ i (osl ad m cap E sz (xs.take (m * sz)))) φ := by
  rw [updL_set]
  exact s.setRes i _ _ hi.get (Nat.le_refl _) rfl rfl rfl (fun _ _ _ => rfl) (own_short (s.own _ hi.mem) m hm) (fun k hk => .inl (by cases ad with | none => (simp [osl, Value.ownBlock] at hk) | some a => exact hk))

theorem JL_len {t e rt : TypeId} {sz by' : Nat} {z : List Value} {x : Operand} {ad : Option Addr} {len cap : Nat} (hs : slOf P t = some (e, sz, by', z)) (hx : Ev fr x (.slice ad len cap))
    (k : JL P ops Q w0 σ φ rest (upd fr d (.int .i64 len))) : JL P ops Q w0 σ φ (⟨some d, .call { callee := .builtin .len, args := #[x], argTypes := #[t] }, rt, pos, aft, none⟩ :: rest) fr :=
  JL_pure _ (fun w => by
    obtain ⟨i, zv, hu, _⟩ := slOf_spec hs
    simp [execOp, resolve, invoke, builtin, hx.eq, Builtin.len_, run_underlying hu, goInt]) k
theorem JL_lenS {t rt : TypeId} {x : Operand} {s : ByteArray} (hs : P.underlying t = some .string) (hx : Ev fr x (.string s))
    (k : JL P ops Q w0 σ φ rest (upd fr d (.int .i64 s.size))) : JL P ops Q w0 σ φ (⟨some d, .call { callee := .builtin .len, args := #[x], argTypes := #[t] }, rt, pos, aft, none⟩ :: rest) fr :=
  JL_pure _ (fun w => by
    simp [execOp, resolve, invoke, builtin, hx.eq, Builtin.len_, run_underlying hs, goInt]) k
theorem JL_min {ts : Array TypeId} {rt : TypeId} {x y : Operand} {kk k' : IntKind} {a b : Int} (hx : Ev fr x (.int kk a)) (hy : Ev fr y (.int k' b))
    (k : JL P ops Q w0 σ φ rest (upd fr d (.int kk (if b < a then b else a)))) : JL P ops Q w0 σ φ (⟨some d, .call { callee := .builtin .min, args := #[x, y], argTypes := ts }, rt, pos, aft, none⟩ :: rest) fr :=
  JL_pure _ (fun w => by
    simp [execOp, resolve, invoke, builtin, hx.eq, hy.eq, Builtin.min_, Builtin.min2]) k
theorem JL_max {ts : Array TypeId} {rt : TypeId} {x y : Operand} {kk k' : IntKind} {a b : Int} (hx : Ev fr x (.int kk a)) (hy : Ev fr y (.int k' b))
    (k : JL P ops Q w0 σ φ rest (upd fr d (.int kk (if a < b then b else a)))) : JL P ops Q w0 σ φ (⟨some d, .call { callee := .builtin .max, args := #[x, y], argTypes := ts }, rt, pos, aft, none⟩ :: rest) fr :=
  JL_pure _ (fun w => by
    simp [execOp, resolve, invoke, builtin, hx.eq, hy.eq, Builtin.max_, Builtin.max2]) k
theorem JL_extract {x : Operand} {vs : Array Value} {i : Nat} {v : Value} (hx : Ev fr x (.tuple vs)) (hi : vs[i]? = some v)
    (k : JL P ops Q w0 σ φ rest (upd fr d v)) : JL P ops Q w0 σ φ (⟨some d, .extract x i, ty, pos, aft, none⟩ :: rest) fr :=
  JL_pure _ (fun w => by simp [execOp, hx.eq, Instr.extract, hi]) k
theorem JL_field {t : TypeId} {x : Operand} {f off n : Nat} {vs : List Value} {v : Value} (hf : fOf P t f = some off) (hT : ∀ fields fd, P.underlying t = some (.struct fields) → fields[f]? = some fd → tyOf P fd.type = some (false, n)) (hx : Ev fr x (.agg vs.toArray)) (hv : Nth vs off v)
    (k : JL P ops Q w0 σ φ rest (upd fr d v)) : JL P ops Q w0 σ φ (⟨some d, .field t x f, ty, pos, aft, none⟩ :: rest) fr := by
  refine JL_pure _ (fun w => ?_) k
  unfold fOf at hf
  split at hf
  · rename_i fields hu
    split at hf
    · rename_i fd hfd
      obtain ⟨ds, i, h1, h2, h3, h4⟩ := tyOf_spec (hT fields fd hu hfd)
      split at hf
      · split at hf
        · cases hf
        · simp at hf
          subst hf
          have hg := hv.get
          simp [execOp, hx.eq, Instr.field, run_underlying hu, hfd, asAgg, part, run_isAgg h1, h3, hg]
      · cases hf
    · cases hf
  · cases hf

/-! ### make, literals, append -/
theorem JL_make {t e : TypeId} {sz by' : Nat} {zs : List Value} {x y : Operand} {k1 k2 : IntKind} {a b : Int} (n c : Nat) (hs : slOf P t = some (e, sz, by', zs)) (hz : zs.length = sz) (hx : Ev fr x (.int k1 a)) (hy : Ev fr y (.int k2 b))
    (ha : a = (n : Int)) (hb : b = (c : Int)) (hnc : n ≤ c) (hbytes : by' * c ≤ 281474976710656) (hmax : c ≤ 9223372036854775807)
    (k : ∀ g, JL P ops Q w0 (σ ++ [osl (some ⟨g, 0, none⟩) n c e sz ((List.replicate n zs).flatten)]) φ rest (upd fr d (.slice (some ⟨g, 0, none⟩) n c))) :
    JL P ops Q w0 σ φ (⟨some d, .makeSlice t x y, ty, pos, aft, none⟩ :: rest) fr := by
  intro w s
  obtain ⟨i, zv, hu, hi, h1, h2, h3, h4⟩ := slOf_spec hs
  subst ha hb
  have hb2 : (i.bytes : Int) * (c : Int) ≤ 281474976710656 := by
    rw [h2]
    have h : ((by' * c : Nat) : Int) ≤ 281474976710656 := by omega
    rwa [Int.natCast_mul] at h
  have hr := run_make (P := P) w t e i zv hu hi h3 k1 k2 (n : Int) (c : Int) (by omega) (by omega) hb2 (by omega)
  simp only [Int.toNat_natCast, h1] at hr
  refine wpList_run rfl rfl (v := .slice (some ⟨w.heap.size, 0, none⟩) n c) (w' := w.alloc (.cells (madeCells zv.cells (c * sz)) e)) ?_ (k w.heap.size _ ?_)
  · simp [execOp, hx.eq, hy.eq, hr]
  · refine s.addRes _ (below_alloc w _) ?_ (fun k hk => by simp [osl, Value.ownBlock] at hk; omega)
    refine ⟨?_, .inr ⟨w.heap.size, c, _, rfl, Nat.zero_le _, heap_alloc_new w _, hnc, by simpa [maxLen] using hmax, size_madeCells _ _, ?_⟩⟩
    · simp [List.length_flatten, hz, List.sum_replicate_nat]
    · have hzl : zv.cells.size = sz := by rw [← hz, ← h4]; simp
      apply List.ext_getElem?
      intro j
      rw [List.getElem?_take]
      by_cases hj : j < n * sz
      · rw [if_pos hj]
        have hjc : j < c * sz := Nat.lt_of_lt_of_le hj (Nat.mul_le_mul_right _ hnc)
        have hsz : 0 < sz := by
          rcases Nat.eq_zero_or_pos sz with h | h
          · subst h; simp at hj
          · exact h
        have hmod : j % sz < sz := Nat.mod_lt _ hsz
        have e1 : (madeCells zv.cells (c * sz)).toList[j]? = some (zs[j % sz]'(by omega)) := by
          have hsome : zs[j % sz]'(by omega) = zv.cells[j % sz]'(by omega) := by
            simp only [← h4]; simp
          rw [hsome]
          simp [madeCells, hjc, hzl, getElem!_pos, hmod]
        rw [e1]
        have e2 : ∀ (n j : Nat), j < n * sz → ((List.replicate n zs).flatten)[j]? = zs[j % sz]? := by
          intro n
          induction n with
          | zero => intro j h; simp at h
          | succ n ih =>
            intro j h
            rw [List.replicate_succ, List.flatten_cons, List.getElem?_append, hz]
            split
            · rename_i hlt; rw [Nat.mod_eq_of_lt hlt]
            · rename_i hlt
              rw [ih (j - sz) (by rw [Nat.succ_mul] at h; omega)]
              congr 1
              exact (Nat.mod_eq_sub_mod (by omega)).symm
        rw [e2 n j hj, List.getElem?_eq_getElem (by omega)]
      · rw [if_neg hj, List.getElem?_eq_none]
        simp [List.length_flatten, hz, List.sum_replicate_nat]; omega

theorem JL_buildSlice {t e : TypeId} {sz by' len : Nat} {zs vs : List Value} {parts : Array (Nat × Operand)} {pv : List (Nat × Value)} (hs : slOf P t = some (e, sz, by', zs)) (hp : (parts.map fun (i, x) => (i, ev fr x)).toList = pv) (hsmall : len * sz ≤ 2 ^ 24) (hlm : len ≤ 16777216) (hlen : vs.length = len * sz)
    (hfill : Instr.fill (fun i => some (i * sz, sz)) ((Array.range (len * sz)).map (zs.toArray[· % zs.toArray.size]!)) pv = some vs.toArray)
    (k : ∀ g, JL P ops Q w0 (σ ++ [osl (some ⟨g, 0, none⟩) len len e sz vs]) φ rest (upd fr d (.slice (some ⟨g, 0, none⟩) len len))) :
    JL P ops Q w0 σ φ (⟨some d, .buildSlice t len parts, ty, pos, aft, none⟩ :: rest) fr := by
  intro w s
  obtain ⟨i, zv, hu, hi, h1, h2, h3, h4⟩ := slOf_spec hs
  have hzz : zv.cells = zs.toArray := by rw [← h4]
  refine wpList_run rfl rfl (v := .slice (some ⟨w.heap.size, 0, none⟩) len len) (w' := w.alloc (.cells vs.toArray e)) ?_ (k w.heap.size _ ?_)
  · have hns : ¬ (len * sz > 2 ^ 24) := by omega
    have hb : (Instr.buildSlice t len (parts.map fun (i, x) => (i, ev fr x))).run P w = .ok (.slice (some ⟨w.heap.size, 0, none⟩) len len) (w.alloc (.cells vs.toArray e)) := by
      generalize (parts.map fun (i, x) => (i, ev fr x)) = q at hp
      by_cases h0 : len * sz = 0
      · rw [h0, Array.range_zero', Array.map_empty] at hfill
        simp [Instr.buildSlice, run_underlying hu, sizeOf, typeInfo, hi, h1, h0, hp, hfill, newRow, Array.range_zero']
      · simp [Instr.buildSlice, run_underlying hu, sizeOf, typeInfo, hi, h1, h0, if_neg hns, zeroValue, h3, hzz, hp, newRow] at hfill ⊢
        simp [hfill]
    simp only [execOp, Sem.run_bind, hb, Result.andThen_ok, Sem.run_pure]
  · refine s.addRes _ (below_alloc w _) ?_ (fun k hk => by simp [osl, Value.ownBlock] at hk; omega)
    refine ⟨hlen, .inr ⟨w.heap.size, len, _, rfl, Nat.zero_le _, heap_alloc_new w _, Nat.le_refl _, ?_, by simp [hlen], ?_⟩⟩
    · simp only [maxLen]; omega
    · simp [← hlen]
end
end Go.Fw

/- The program logic's rules for append, for calls, and for the end of a function. -/
namespace Go.Fw
open Go Go.RowKit

def SrcAt (w : World) (ad : Option Addr) (news : List Value) : Prop := ∀ (j : Nat) (u : Value), news[j]? = some u → ∃ a, ad = some a ∧ w.cell? (a.add j) = some u
theorem CellsAt.src {X : Nat → Prop} {w : World} {ad : Option Addr} {xs : List Value} (h : CellsAt X w ad xs) : SrcAt w ad xs := fun _ _ hj => h.some hj

section
variable {P : Program} {w : World} {t ty e : TypeId} {sz by' : Nat} {zs : List Value}
theorem run_append_zero {ad2 ad : Option Addr} {n cap c : Nat} (hs : slOf P t = some (e, sz, by', zs)) (hn : n ≤ cap) : (Builtin.append_ #[t, t] ty #[.slice ad n cap, .slice ad2 0 c]).run P w = .ok (.slice ad n cap) w := by
  obtain ⟨i, zv, hu, hi, h1, h2, h3, h4⟩ := slOf_spec hs
  cases ad <;> cases ad2 <;> simp [Builtin.append_, run_underlying hu, sizeOf, typeInfo, hi, Builtin.lenOf, hn, Builtin.firstCells, loadCells, loadCellsFrom, storeCells]
theorem size_zc (z : Array Value) (n : Nat) : (Builtin.zeroCells z n).size = n * z.size := by simp [Builtin.zeroCells]
/-- A new block holds what was and what is appended. -/
theorem osl_grown {zv : Value} {n m old : Nat} {xs news : List Value} (hzs : zv.cells.size = sz) (hx : xs.length = n * sz) (hl : news.length = m * sz) (h63 : n + m ≤ maxLen) :
    (osl (some ⟨w.heap.size, 0, none⟩) (n + m) (grownCap w (n + m) old e) e sz (xs ++ news)).holds
      (w.drew.alloc (.cells (xs.toArray ++ news.toArray ++ Builtin.zeroCells zv.cells (grownCap w (n + m) old e - (n + m))) e)) := by
  have hge := grownCap_ge w (n + m) old e
  have hcm : grownCap w (n + m) old e ≤ maxLen := grownCap_le_maxLen w (n + m) old e h63
  have hlen : (xs ++ news).length = (n + m) * sz := by rw [List.length_append, hx, hl, Nat.add_mul]
  refine ⟨hlen, .inr ⟨w.heap.size, _, _, rfl, Nat.zero_le _, heap_alloc_new w.drew _, hge, hcm, ?_, ?_⟩⟩
  · simp only [Array.size_append, List.size_toArray, size_zc, hzs, hx, hl, ← Nat.add_mul]
    congr 1
    omega
  · simp only [Array.toList_append]
    rw [← hlen]
    exact List.take_left
theorem run_append_res {ad ad2 : Option Addr} {n cap m c : Nat} {xs news : List Value} (hs : slOf P t = some (e, sz, by', zs)) (hz : zs.length = sz) (hsz : 0 < sz) (hown : (osl ad n cap e sz xs).holds w)
    (hl : news.length = m * sz) (hsrc : SrcAt w ad2 news) (h1 : AllOne news) (h63 : n + m ≤ 9223372036854775807) (hbytes : (n + m) * by' ≤ 140737488355328) :
    ∃ ad' cap' w', (Builtin.append_ #[t, t] ty #[.slice ad n cap, .slice ad2 m c]).run P w = .ok (.slice ad' (n + m) cap') w' ∧ (osl ad' (n + m) cap' e sz (xs ++ news)).holds w' ∧
      w.grownBy w' (osl ad n cap e sz xs).key ∧ ∀ k, (osl ad' (n + m) cap' e sz (xs ++ news)).key = some k → (osl ad n cap e sz xs).key = some k ∨ w.heap.size ≤ k := by
  have h63' : n + m ≤ maxLen := by simpa [maxLen] using h63
  obtain ⟨i, zv, hu, hi, hi1, hi2, hi3, hi4⟩ := slOf_spec hs
  have hzv : zv.cells.size = sz := by rw [← hz, ← hi4]; simp
  have hnc : n ≤ cap := by
    rcases hown.2 with ⟨hv, hn⟩ | ⟨g, cap', cur, hv, _, _, hnc, _⟩
    · omega
    · simp only [Value.slice.injEq] at hv; omega
  by_cases hm : m = 0
  · subst hm
    obtain rfl : news = [] := List.eq_nil_of_length_eq_zero (by omega)
    refine ⟨ad, cap, w, run_append_zero hs hnc, by simpa using hown, ⟨rfl, rfl, rfl, Nat.le_refl _, fun _ _ _ => rfl⟩, fun k hk => .inl (by simpa [osl] using hk)⟩
  · have hpos : 0 < news.length := by rw [hl]; exact Nat.mul_pos (by omega) hsz
    obtain ⟨a, rfl, _⟩ := hsrc 0 _ (List.getElem?_eq_getElem hpos)
    have hnews : ∀ j u, news[j]? = some u → w.cell? (a.add j) = some u := fun j u hj => by
      obtain ⟨a', he, hc⟩ := hsrc j u hj
      obtain rfl : a = a' := by simpa using he
      exact hc
    have fresh : ∀ (row : Option Nat) (o : Obj), w.grownBy (w.drew.alloc o) row := fun row o => ⟨rfl, rfl, rfl, by simp, fun k hk _ => Below.heap_alloc w.drew o k hk⟩
    rcases hown.2 with ⟨hv, hn⟩ | ⟨g, cap', cur, hv, hb, hgg, _, hcm, hcs, htake⟩
    · simp only [Value.slice.injEq] at hv
      obtain ⟨rfl, rfl, rfl⟩ := hv
      obtain rfl : xs = [] := List.eq_nil_of_length_eq_zero (by have := hown.1; simpa using this)
      have hr := run_append_nil (P := P) w t ty e i zv hu hi hi3 a m c news (by rw [hi1]; exact hl) hnews (by omega) (by omega) (by rw [hi2]; simp at hbytes; omega)
      have hgr := osl_grown (w := w) (e := e) (n := 0) (m := m) (old := 0) (xs := []) (news := news) hzv (by simp) hl h63'
      simp only [Nat.zero_add, List.nil_append, Array.empty_append] at hgr ⊢
      exact ⟨_, _, _, hr, hgr, fresh _ _, fun k hk => .inr (by simp [osl, Value.ownBlock] at hk; omega)⟩
    · have hv' := hv
      simp only [Value.slice.injEq] at hv
      obtain ⟨rfl, _, rfl⟩ := hv
      by_cases hroom : n + m ≤ cap
      · have hfit : n * i.size + news.length ≤ cur.size := by rw [hi1, hl, hcs, ← Nat.add_mul]; exact Nat.mul_le_mul_right _ hroom
        have hr := run_append_room (P := P) w t ty e i hu hi g n cap cur hgg a m c news (by rw [hi1]; exact hl) hnews h1 hroom hfit
        refine ⟨_, _, _, hr, ⟨by rw [List.length_append, hown.1, hl, Nat.add_mul], .inr ⟨g, cap, _, rfl, Nat.zero_le _, setRow_heap w g cur _ e _ hgg, hroom, hcm, ?_, ?_⟩⟩,
          ⟨rfl, rfl, rfl, by simp, fun k _ hk => setRow_other w g k _ (fun e => hk (by simp [osl, Value.ownBlock, e]))⟩, fun k hk => .inl hk⟩
        · simp only [List.size_toArray, List.length_append, List.length_take, List.length_drop, Array.length_toList]
          rw [hcs] at hfit ⊢
          omega
        · rw [hi1, htake]
          have hlen : (xs ++ news).length = (n + m) * sz := by rw [List.length_append, hown.1, hl, Nat.add_mul]
          rw [← hlen]
          exact List.take_left
      · have holds : ∀ j u, xs[j]? = some u → w.cell? ((⟨g, 0, none⟩ : Addr).add j) = some u := fun j u hj => by
          obtain ⟨a', he, hc⟩ := (own_cells hown).some hj
          obtain rfl : (⟨g, 0, none⟩ : Addr) = a' := by simpa using he
          exact hc
        have hr := run_append_grow (P := P) w t ty e i zv hu hi hi3 ⟨g, 0, none⟩ n cap xs (by rw [hi1]; exact hown.1) holds a m c news (by rw [hi1]; exact hl) hnews (by omega) (by omega) (growslice_fits (by omega) (by rw [hi2]; exact hbytes))
        exact ⟨_, _, _, hr, osl_grown (w := w) (e := e) hzv hown.1 hl h63', fresh _ _, fun k hk => .inr (by simp [osl, Value.ownBlock] at hk; omega)⟩
/-- Append onto immutable data without spare room: a new block, or nothing to append. -/
theorem run_append_full {X : Nat → Prop} {ad ad2 : Option Addr} {n cap m c : Nat} {xs news : List Value} (hs : slOf P t = some (e, sz, by', zs)) (hz : zs.length = sz) (hsz : 0 < sz) (hx : CellsAt X w ad xs) (hxl : xs.length = n * sz) (hcap : cap = n)
    (hl : news.length = m * sz) (hsrc : SrcAt w ad2 news) (h63 : n + m ≤ 9223372036854775807) (hbytes : (n + m) * by' ≤ 140737488355328) :
    ∃ ad' cap' w', (Builtin.append_ #[t, t] ty #[.slice ad n cap, .slice ad2 m c]).run P w = .ok (.slice ad' (n + m) cap') w' ∧ n + m ≤ cap' ∧ cap' ≤ 9223372036854775807 ∧ Below w.heap.size w w' ∧
      ((m = 0 ∧ w' = w ∧ ad' = ad) ∨ CellsAt (fun k => k < w.heap.size) w' ad' (xs ++ news)) := by
  have h63' : n + m ≤ maxLen := by simpa [maxLen] using h63
  obtain ⟨i, zv, hu, hi, hi1, hi2, hi3, hi4⟩ := slOf_spec hs
  have hzv : zv.cells.size = sz := by rw [← hz, ← hi4]; simp
  subst hcap
  by_cases hm : m = 0
  · subst hm
    exact ⟨ad, cap, w, run_append_zero hs (Nat.le_refl _), by simp, by omega, Below.refl _ _, .inl ⟨rfl, rfl, rfl⟩⟩
  · have hpos : 0 < news.length := by rw [hl]; exact Nat.mul_pos (by omega) hsz
    obtain ⟨a, rfl, _⟩ := hsrc 0 _ (List.getElem?_eq_getElem hpos)
    have hnews : ∀ j u, news[j]? = some u → w.cell? (a.add j) = some u := fun j u hj => by
      obtain ⟨a', he, hc⟩ := hsrc j u hj
      obtain rfl : a = a' := by simpa using he
      exact hc
    have hgr := osl_grown (w := w) (e := e) (n := cap) (m := m) (old := cap) (xs := xs) (news := news) hzv hxl hl h63'
    have hbl : ∀ (o : Obj), Below w.heap.size w (w.drew.alloc o) := fun o => ((Below.refl _ _).drew).alloc (by simp) o
    have hge := grownCap_ge w (cap + m) cap e
    have hcm : grownCap w (cap + m) cap e ≤ maxLen := grownCap_le_maxLen w (cap + m) cap e h63'
    have hfin : ∀ {w' : World} {c' : Nat}, (osl (some ⟨w.heap.size, 0, none⟩) (cap + m) c' e sz (xs ++ news)).holds w' → CellsAt (fun k => k < w.heap.size) w' (some ⟨w.heap.size, 0, none⟩) (xs ++ news) := by
      intro w' c' h j u hj
      obtain ⟨b, o, he, _, hc⟩ := own_cells h j u hj
      simp at he
      obtain ⟨rfl, rfl⟩ := he
      exact ⟨_, 0, rfl, by omega, hc⟩
    cases had : ad with
    | none =>
      have hx0 : xs = [] := by
        cases hxs : xs with
        | nil => rfl
        | cons v l => obtain ⟨b, o, he, _⟩ := hx 0 v (by rw [hxs]; rfl); rw [had] at he; cases he
      subst hx0
      have hc0 : cap = 0 := by
        have h0 : cap * sz = 0 := by simpa using hxl.symm
        rcases Nat.mul_eq_zero.1 h0 with h | h
        · exact h
        · omega
      subst hc0
      have hr := run_append_nil (P := P) w t ty e i zv hu hi hi3 a m c news (by rw [hi1]; exact hl) hnews (by omega) (by omega) (by rw [hi2]; simp at hbytes; omega)
      simp only [Nat.zero_add, List.nil_append, Array.empty_append] at hgr hge hcm hfin ⊢
      exact ⟨_, _, _, hr, hge, by simpa [maxLen] using hcm, hbl _, .inr (hfin hgr)⟩
    | some b =>
      have holds : ∀ j u, xs[j]? = some u → w.cell? (b.add j) = some u := fun j u hj => by
        obtain ⟨a', he, hc⟩ := hx.some hj
        rw [had] at he
        obtain rfl : b = a' := by simpa using he
        exact hc
      have hr := run_append_grow (P := P) w t ty e i zv hu hi hi3 b cap cap xs (by rw [hi1]; exact hxl) holds a m c news (by rw [hi1]; exact hl) hnews (by omega) (by omega) (growslice_fits (by omega) (by rw [hi2]; exact hbytes))
      exact ⟨_, _, _, hr, hge, by simpa [maxLen] using hcm, hbl _, .inr (hfin hgr)⟩
end

section
variable {P : Program} {Q : Exit → Act → World → Prop} {w0 : Ctx} {σ σ' : List Res} {φ φ' : List (Bool × VP)} {fr : Fr} {ops : Array Oper} {rest : List Oper}
  {d : Nat} {ty : TypeId} {pos : String} {aft : Array Edge}
theorem exec_append {t : TypeId} {x y : Operand} {u v : Value} (hx : Ev fr x u) (hy : Ev fr y v) (w : World) :
    (execOp (ev fr) ⟨some d, .call { callee := .builtin .append, args := #[x, y], argTypes := #[t, t] }, ty, pos, aft, none⟩).run P w = ((Builtin.append_ #[t, t] ty #[u, v]).run P w).andThen fun a w' => .ok (.value a) w' := by
  simp [execOp, resolve, invoke, builtin, hx.eq, hy.eq]
theorem osl_cap {w : World} {ad : Option Addr} {n cap sz : Nat} {E : TypeId} {xs : List Value} (h : (osl ad n cap E sz xs).holds w) : n ≤ cap ∧ cap ≤ 9223372036854775807 := by
  rcases h.2 with ⟨hv, hn⟩ | ⟨g, cap', cur, hv, _, _, h1, h2, _⟩
  · simp only [Value.slice.injEq] at hv; omega
  · simp only [Value.slice.injEq] at hv
    simp only [maxLen] at h2
    omega
theorem JL_append {t e : TypeId} {sz by' : Nat} {zs : List Value} {x y : Operand} {ad ad2 : Option Addr} {n cap m c : Nat} {xs news : List Value} (i : Nat) (hs : slOf P t = some (e, sz, by', zs)) (hz : zs.length = sz) (hsz : 0 < sz)
    (hx : Ev fr x (.slice ad n cap)) (hy : Ev fr y (.slice ad2 m c)) (hσ : Nth σ i (osl ad n cap e sz xs)) (hl : news.length = m * sz) (hr : Reads w0 σ φ ad2 news) (h1 : AllOne news)
    (h63 : n + m ≤ 9223372036854775807) (hbytes : (n + m) * by' ≤ 140737488355328)
    (k : ∀ ad' cap', n + m ≤ cap' ∧ cap' ≤ 9223372036854775807 → JL P ops Q w0 (updL σ i (osl ad' (n + m) cap' e sz (xs ++ news))) φ rest (upd fr d (.slice ad' (n + m) cap'))) :
    JL P ops Q w0 σ φ (⟨some d, .call { callee := .builtin .append, args := #[x, y], argTypes := #[t, t] }, ty, pos, aft, none⟩ :: rest) fr := by
  intro w s
  obtain ⟨X, hc⟩ := hr w s
  obtain ⟨ad', cap', w', hrun, hown, hg, hkey⟩ := run_append_res (ty := ty) (c := c) hs hz hsz (s.own _ hσ.mem) hl hc.src h1 h63 hbytes
  refine wpList_run rfl rfl (by rw [exec_append hx hy, hrun]; rfl) (k ad' cap' (osl_cap hown) w' ?_)
  rw [updL_set]
  exact s.setRes i _ _ hσ.get hg.size hg.os hg.tape hg.output (fun k hk hne => hg.block k hk (fun e => hne e.symm)) hown hkey
/-- The first append onto a nil slice: it becomes an own resource. -/
theorem St.addNil {w : World} (s : St w0 w σ φ) (E : TypeId) (sz : Nat) : St w0 w (σ ++ [osl none 0 0 E sz []]) φ :=
  s.addRes _ (Below.refl _ _) (World.ownsRow_nil _ _ _ _) (fun k hk => by simp [osl, Value.ownBlock] at hk)
theorem JL_addNil {l : List Oper} (E : TypeId) (sz : Nat) (k : JL P ops Q w0 (σ ++ [osl none 0 0 E sz []]) φ l fr) : JL P ops Q w0 σ φ l fr := JL_conv (fun _ s => s.addNil E sz) k
theorem JC_addNil {c : Code} (E : TypeId) (sz : Nat) (k : JC P c Q w0 (σ ++ [osl none 0 0 E sz []]) φ fr) : JC P c Q w0 σ φ fr := JC_conv (fun _ s => s.addNil E sz) k
theorem JL_appendV {t e : TypeId} {sz by' : Nat} {zs : List Value} {x y : Operand} {f : Bool} {ad ad2 : Option Addr} {n cap m c : Nat} {xs news : List Value} (hs : slOf P t = some (e, sz, by', zs)) (hz : zs.length = sz) (hsz : 0 < sz)
    (hx : Ev fr x (.slice ad n cap)) (hy : Ev fr y (.slice ad2 m c)) (hv : (f, vCells ad xs) ∈ φ) (hxl : xs.length = n * sz) (hcap : cap = n) (hl : news.length = m * sz) (hr : Reads w0 σ φ ad2 news)
    (h63 : n + m ≤ 9223372036854775807) (hbytes : (n + m) * by' ≤ 140737488355328)
    (k : ∀ ad' cap', n + m ≤ cap' ∧ cap' ≤ 9223372036854775807 → JL P ops Q w0 σ ((f, vCells ad' (xs ++ news)) :: φ) rest (upd fr d (.slice ad' (n + m) cap'))) :
    JL P ops Q w0 σ φ (⟨some d, .call { callee := .builtin .append, args := #[x, y], argTypes := #[t, t] }, ty, pos, aft, none⟩ :: rest) fr := by
  intro w s
  obtain ⟨X, hc⟩ := hr w s
  have hvw : CellsAt (Xof w0 σ f) w ad xs := s.views _ hv
  obtain ⟨ad', cap', w', hrun, hle, hle2, hbel, hor⟩ := run_append_full (ty := ty) (c := c) hs hz hsz hvw hxl hcap hl hc.src h63 hbytes
  refine wpList_run rfl rfl (by rw [exec_append hx hy, hrun]; rfl) (k ad' cap' ⟨hle, hle2⟩ w' ?_)
  refine (s.ext hbel).addView ?_
  rcases hor with ⟨rfl, rfl, rfl⟩ | hcells
  · have : news = [] := List.eq_nil_of_length_eq_zero (by simpa using hl)
    subst this
    show CellsAt _ _ _ _
    simpa using hvw
  · refine hcells.mono (fun _ _ _ => rfl) ?_
    intro b hb hX
    rcases hX with ⟨r, hr, hrk⟩ | ⟨_, hlt⟩
    · exact r.lt w (s.own r hr) b hrk
    · exact Nat.lt_of_lt_of_le (w0.hY _ hlt) s.base.size

/-! ### Calls -/
theorem run_callFunc {f : FuncId} {args : Array Value} (hc : callable P f = true) (w : World) : (callFunc f args).run P w = .ok (.enter f args) w := by
  unfold callable at hc
  split at hc
  · rename_i fn hf
    simp only [Bool.and_eq_true, Bool.not_eq_true'] at hc
    have hb : fn.body.isNone = false := by cases h : fn.body <;> simp [h] at hc ⊢
    simp only [callFunc, Sem.run_bind, run_program, Result.andThen_ok, hf, hc.2, Bool.false_eq_true, if_false, hb, Sem.run_pure]
  · cases hc
theorem exec_call {f : FuncId} {x : Operand} {xs : List Operand} {ts : Array TypeId} {vs : List Value} {dst : Option Nat} (hf : Ev fr x (.func (.func f) #[] #[])) (hc : callable P f = true) (ha : xs.map (ev fr) = vs) (w : World) :
    (execOp (ev fr) ⟨dst, .call { callee := .value x, args := xs.toArray, argTypes := ts }, ty, pos, aft, none⟩).run P w = .ok (.enter f vs.toArray) w := by
  subst ha
  simp [execOp, resolve, hf.eq, Deferred.ofValue, invoke, run_callFunc hc]
def EvL (fr : Fr) : List Operand → List Value → Prop
  | [], l => l = []
  | x :: xs, l => match l with
    | [] => False
    | v :: vs => Ev fr x v ∧ EvL fr xs vs
theorem EvL.eq {fr : Fr} : ∀ {xs : List Operand} {vs : List Value}, EvL fr xs vs → xs.map (ev fr) = vs
  | [], _, h => by rw [show _ = _ from h]; rfl
  | x :: xs, [], h => h.elim
  | x :: xs, v :: vs, h => by rw [List.map_cons, h.1.eq, EvL.eq h.2]
theorem wpList_call {f : FuncId} {x : Operand} {xs : List Operand} {ts : Array TypeId} {vs : List Value} {w : World} {R : Ending → World → Prop} (hf : Ev fr x (.func (.func f) #[] #[])) (hc : callable P f = true) (ha : EvL fr xs vs)
    (con : Calls P f vs.toArray w R) (hR : ∀ e w', R e w' → ∃ v, e = .returned v ∧ wpList P ops Q rest (act (upd fr d v)) w') :
    wpList P ops Q (⟨some d, .call { callee := .value x, args := xs.toArray, argTypes := ts }, ty, pos, aft, none⟩ :: rest) (act fr) w := by
  refine wpList_plain rfl fun K hK => ?_
  unfold Oper.wp
  rw [act_eval_fun, exec_call hf hc ha.eq]
  refine con.mono ?_
  intro e w' hr
  obtain ⟨v, rfl, h⟩ := hR e w' hr
  show K ((act fr).put (some d) v) w'
  rw [act_put]
  exact hK _ _ h
/-- What a contract asks, out of the state. -/
def Asks (w0 : Ctx) (σ : List Res) (φ : List (Bool × VP)) (φin : List VP) : Prop := ∀ w, St w0 w σ φ → ∀ p ∈ φin, p.holds (fun _ => False) w
theorem Asks.nil : Asks w0 σ φ [] := fun _ _ p hp => by cases hp
theorem Asks.cons {p : VP} {ps : List VP} (h : ∀ w, St w0 w σ φ → p.holds (fun _ => False) w) (h' : Asks w0 σ φ ps) : Asks w0 σ φ (p :: ps) := fun w s q hq => by
  rcases List.mem_cons.1 hq with rfl | hq
  · exact h w s
  · exact h' w s q hq
theorem holds_of_mem {p : VP} {f : Bool} (h : (f, p) ∈ φ) : ∀ w, St w0 w σ φ → p.holds (fun _ => False) w :=
  fun w s => p.mono _ _ w w (s.views _ h) (Nat.le_refl _) (fun _ _ _ => rfl) (fun _ _ h => h.elim)
theorem holds_of_own {ad : Option Addr} {n cap sz : Nat} {E : TypeId} {xs : List Value} (i : Nat) (h : Nth σ i (osl ad n cap E sz xs)) : ∀ w, St w0 w σ φ → (vCells ad xs).holds (fun _ => False) w :=
  fun _ s => (own_cells (s.own _ h.mem)).mono (fun _ _ _ => rfl) (fun _ _ h => h.elim)
theorem JL_callF {f : FuncId} {x : Operand} {xs : List Operand} {ts : Array TypeId} {vs : List Value} {φin : List VP} {Post : Value → List VP → Prop} (con : ConF P f vs φin Post) (hf : Ev fr x (.func (.func f) #[] #[])) (hc : callable P f = true) (ha : EvL fr xs vs)
    (hin : Asks w0 σ φ φin) (k : ∀ v φo, Post v φo → JL P ops Q w0 σ (φo.map (fun p => (true, p)) ++ φ) rest (upd fr d v)) :
    JL P ops Q w0 σ φ (⟨some d, .call { callee := .value x, args := xs.toArray, argTypes := ts }, ty, pos, aft, none⟩ :: rest) fr := by
  intro w s
  refine wpList_call hf hc ha (con w (hin w s)) ?_
  rintro e w' ⟨v, φo, rfl, hP, hb, hv⟩
  refine ⟨v, rfl, k v φo hP w' ?_⟩
  have s' := s.ext hb
  refine ⟨s'.base, s'.own, s'.fresh, s'.dist, fun p hp => ?_⟩
  rcases List.mem_append.1 hp with hp | hp
  · obtain ⟨q, hq, rfl⟩ := List.mem_map.1 hp
    refine q.mono _ _ w' w' (hv q hq) (Nat.le_refl _) (fun _ _ _ => rfl) ?_
    intro b _ hX
    rcases hX with ⟨r, hr, hrk⟩ | ⟨_, hlt⟩
    · exact r.lt w (s.own r hr) b hrk
    · exact Nat.lt_of_lt_of_le (w0.hY _ hlt) s.base.size
  · exact s'.views p hp
/-- What a sharing contract asks: views that avoid X, all fresh or not. -/
def AsksA (w0 : Ctx) (σ : List Res) (φ : List (Bool × VP)) (b : Bool) (φin : List VP) : Prop := ∀ w, St w0 w σ φ → ∀ p ∈ φin, p.holds (Xof w0 σ b) w
theorem AsksA.nil {b : Bool} : AsksA w0 σ φ b [] := fun _ _ p hp => by cases hp
theorem AsksA.cons {b : Bool} {p : VP} {ps : List VP} (h : ∀ w, St w0 w σ φ → p.holds (Xof w0 σ b) w) (h' : AsksA w0 σ φ b ps) : AsksA w0 σ φ b (p :: ps) := fun w s q hq => by
  rcases List.mem_cons.1 hq with rfl | hq
  · exact h w s
  · exact h' w s q hq
theorem holdsA_of_mem {p : VP} {b : Bool} (h : (b, p) ∈ φ) : ∀ w, St w0 w σ φ → p.holds (Xof w0 σ b) w := fun _ s => s.views _ h
theorem holdsA_of_fresh {p : VP} (h : (true, p) ∈ φ) : ∀ w, St w0 w σ φ → p.holds (Xof w0 σ false) w := fun w s =>
  p.mono _ _ w w (s.views _ h) (Nat.le_refl _) (fun _ _ _ => rfl) (fun _ _ h => by
    rcases h with h | h
    · exact .inl h
    · exact absurd h.1 (by simp))
theorem JL_callA {f : FuncId} {x : Operand} {xs : List Operand} {ts : Array TypeId} {vs : List Value} {φin : List VP} {Post : Value → List VP → Prop} (b : Bool) (con : ConA P f vs φin Post) (hf : Ev fr x (.func (.func f) #[] #[])) (hc : callable P f = true) (ha : EvL fr xs vs)
    (hin : AsksA w0 σ φ b φin) (k : ∀ v φo, Post v φo → JL P ops Q w0 σ (φo.map (fun p => (b, p)) ++ φ) rest (upd fr d v)) :
    JL P ops Q w0 σ φ (⟨some d, .call { callee := .value x, args := xs.toArray, argTypes := ts }, ty, pos, aft, none⟩ :: rest) fr := by
  intro w s
  have hX : ∀ k, Xof w0 σ b k → k < w.heap.size := by
    intro k hk
    rcases hk with ⟨r, hr, hrk⟩ | ⟨_, hlt⟩
    · exact r.lt w (s.own r hr) k hrk
    · exact Nat.lt_of_lt_of_le (w0.hY _ hlt) s.base.size
  refine wpList_call hf hc ha (con w (Xof w0 σ b) hX (hin w s)) ?_
  rintro e w' ⟨v, φo, rfl, hP, hb, hv⟩
  refine ⟨v, rfl, k v φo hP w' ?_⟩
  have s' := s.ext hb
  refine ⟨s'.base, s'.own, s'.fresh, s'.dist, fun p hp => ?_⟩
  rcases List.mem_append.1 hp with hp | hp
  · obtain ⟨q, hq, rfl⟩ := List.mem_map.1 hp
    exact hv q hq
  · exact s'.views p hp

/-! ### The end -/
def RV (P : Program) (σ : List Res) (fr : Fr) : ResultVar → Value → Prop
  | .tmp t, v => Lk fr t v
  | .cell a T, v => ∃ b T' cs vs, tyOf P T = some (true, List.length vs) ∧ Lk fr a (.pointer (some ⟨b, 0, none⟩)) ∧ (∃ i, Nth σ i (box b T' cs)) ∧ NthL cs 0 vs ∧ v = .agg vs.toArray
theorem RV.cell {a T b : Nat} {T' : TypeId} {cs vs : List Value} (i : Nat) (hT : tyOf P T = some (true, vs.length)) (hl : Lk fr a (.pointer (some ⟨b, 0, none⟩))) (hσ : Nth σ i (box b T' cs)) (hv : NthL cs 0 vs) : RV P σ fr (.cell a T) (.agg vs.toArray) :=
  ⟨b, T', cs, vs, hT, hl, ⟨i, hσ⟩, hv, rfl⟩
def rvRun (tmps : Array Value) : ResultVar → Sem Value
  | .tmp t => pure (tmps.getD t undef)
  | .cell a t => do loadVar t (← asAddr (tmps.getD a undef))
theorem RV.run {r : ResultVar} {v : Value} {w : World} (h : RV P σ fr r v) (s : St w0 w σ φ) : (rvRun (act fr).tmps r).run P w = .ok v w := by
  cases r with
  | tmp t => simp only [rvRun, Sem.run_pure, look_getD, Lk.eq h]
  | cell a T =>
    obtain ⟨b, T', cs, vs, hT, hl, ⟨i, hσ⟩, hv, rfl⟩ := h
    have hcs : ∀ m u, vs[m]? = some u → w.cell? (Addr.add ⟨b, 0, none⟩ m) = some u := fun m u hm => by
      rw [add_lit', cell_box (s.own _ hσ.mem)]; exact hv.get m u hm
    simp only [rvRun, look_getD, Lk.eq hl, asAddr, Sem.run_bind, Sem.run_pure, Result.andThen_ok, run_loadVar_agg hT hcs]
def RVs (P : Program) (σ : List Res) (fr : Fr) : List ResultVar → List Value → Prop
  | [], vs => vs = []
  | r :: rs, vs => match vs with
    | [] => False
    | v :: l => RV P σ fr r v ∧ RVs P σ fr rs l
def retOf : List Value → Value
  | [v] => v
  | vs => .tuple vs.toArray
theorem RVs.run {w : World} (s : St w0 w σ φ) : ∀ {rs : List ResultVar} {vs : List Value}, RVs P σ fr rs vs → (rs.mapM (rvRun (act fr).tmps)).run P w = .ok vs w
  | [], vs, h => by rw [show vs = [] from h]; rfl
  | r :: rs, [], h => h.elim
  | r :: rs, v :: vs, h => by
    rw [List.mapM_cons]
    simp only [Sem.run_bind, h.1.run s, Result.andThen_ok, RVs.run s h.2, Sem.run_pure]
theorem results_eq (fn : Func) (tmps : Array Value) : results fn tmps = (do let vs ← fn.results.mapM (rvRun tmps); pure (if h : vs.size = 1 then vs[0] else .tuple vs)) := rfl
theorem run_results {fn : Func} {rs : List ResultVar} {vs : List Value} {w : World} (hr : fn.results = rs.toArray) (h : RVs P σ fr rs vs) (s : St w0 w σ φ) : (results fn (act fr).tmps).run P w = .ok (retOf vs) w := by
  have h1 := RVs.run s h
  rw [results_eq, hr, List.mapM_toArray]
  simp only [Sem.run_bind, Sem.run_map, h1, Result.andThen_ok, Sem.run_pure]
  match vs with
  | [] => rfl
  | [v] => rfl
  | _ :: _ :: _ => rfl
theorem JE_ret {fn : Func} {Post : Value → List VP → Prop} {rs : List ResultVar} {vs : List Value} (φo : List VP) (hr : fn.results = rs.toArray) (hv : RVs P σ fr rs vs) (hP : Post (retOf vs) φo) (hφ : ∀ p ∈ φo, (true, p) ∈ φ) :
    JE (bodyPost P fn (PostY w0 Post)) .ret w0 σ φ fr :=
  fun _ s => bodyPost_of (run_results hr hv s) (PostY_of s φo hP hφ)
theorem JE_end {fn : Func} {Post : Value → List VP → Prop} {rs : List ResultVar} {vs : List Value} (φo : List VP) (hr : fn.results = rs.toArray) (hv : RVs P σ fr rs vs) (hP : Post (retOf vs) φo) (hφ : ∀ p ∈ φo, (true, p) ∈ φ) :
    JE (bodyPost P fn (PostY w0 Post)) .normal w0 σ φ fr :=
  fun _ s => bodyPost_of' (run_results hr hv s) (PostY_of s φo hP hφ)
end

end Go.Fw

/-! The program logic's loops and meetings by overrides, and small helps. -/
namespace Go.Fw
open Go Go.RowKit

/-- The frame with some slots written anew, in one pass. -/
def mix {α : Type} : List α → List (Option α) → List α
  | [], _ => []
  | l, [] => l
  | v :: l, none :: m => v :: mix l m
  | _ :: l, some x :: m => x :: mix l m

section
variable {P : Program} {Q : Exit → Act → World → Prop} {w0 : Ctx} {σ σ' : List Res} {φ φ' : List (Bool × VP)} {fr fr' : Fr} {ops : Array Oper} {rest : List Oper}
  {d : Nat} {ty : TypeId} {pos : String} {aft : Array Edge}

theorem JC_norm {c : Code} (fr' : Fr) (σ' : List Res) (φ' : List (Bool × VP)) (h1 : fr' = fr) (h2 : σ' = σ) (h3 : φ' = φ) (h : JC P c Q w0 σ' φ' fr') : JC P c Q w0 σ φ fr := by
  subst h1 h2 h3; exact h
theorem JE_norm {e : Exit} (fr' : Fr) (σ' : List Res) (φ' : List (Bool × VP)) (h1 : fr' = fr) (h2 : σ' = σ) (h3 : φ' = φ) (h : JE Q e w0 σ' φ' fr') : JE Q e w0 σ φ fr := by
  subst h1 h2 h3; exact h
theorem JL_dropAt {l : List Oper} (i : Nat) (h : JL P ops Q w0 (σ.eraseIdx i) φ l fr) : JL P ops Q w0 σ φ l fr := JL_conv (fun _ s => s.dropRes (List.eraseIdx_sublist _ _)) h
theorem JC_dropAt {c : Code} (i : Nat) (h : JC P c Q w0 (σ.eraseIdx i) φ fr) : JC P c Q w0 σ φ fr := JC_conv (fun _ s => s.dropRes (List.eraseIdx_sublist _ _)) h
theorem JE_dropAt {e : Exit} (i : Nat) (h : JE Q e w0 (σ.eraseIdx i) φ fr) : JE Q e w0 σ φ fr := JE_conv (fun _ s => s.dropRes (List.eraseIdx_sublist _ _)) h

theorem JL_done_up {y : Code} (n : Nat) {b' : List Value} (σ' : List Res) (φ' : List (Bool × VP)) (hn : fr.n = n) (hl : Nat.ble n fr.base.length = true) (h1 : flatP fr.pend fr.base = b') (h2 : σ' = σ) (h3 : φ' = φ) (h : JC P y Q w0 σ' φ' ⟨n, [], b'⟩) : JL P ops (Then P y Q) w0 σ φ [] fr := by
  subst h2 h3
  intro w s
  rw [act_flat hn hl h1]
  exact JL_done h w s
theorem JL_nil_up (n : Nat) {b' : List Value} (σ' : List Res) (φ' : List (Bool × VP)) (hn : fr.n = n) (hl : Nat.ble n fr.base.length = true) (h1 : flatP fr.pend fr.base = b') (h2 : σ' = σ) (h3 : φ' = φ) (h : JE Q .normal w0 σ' φ' ⟨n, [], b'⟩) : JL P ops Q w0 σ φ [] fr := by
  subst h2 h3
  intro w s
  rw [act_flat hn hl h1]
  exact JL_nil h w s

/-- The frame with some slots written anew. -/
def mixF (fr : Fr) (ov : List (Option Value)) : Fr := ⟨fr.n, [], mix fr.base ov⟩
/-- A loop: ov gives what slots hold anew (u: slots of no interest), os what turns among the resources, fv the views besides. -/
def NextS {ι : Type} (w0 : Ctx) (σ : List Res) (φ : List (Bool × VP)) (fr : Fr) (C : ι → Prop) (μ : ι → Nat) (ov : (Nat → Value) → ι → List (Option Value)) (os : ι → List (Option Res)) (fv : ι → List (Bool × VP)) (n : Nat)
    (Q : Exit → Act → World → Prop) : Exit → Act → World → Prop :=
  Next w0 (fun i : (Nat → Value) × ι => C i.2) (fun i => μ i.2) (fun i => mix σ (os i.2)) (fun i => fv i.2 ++ φ) (fun i => mixF fr (ov i.1 i.2)) n Q
theorem JC_loopS {c : Code} (ι : Type) (C : ι → Prop) (μ : ι → Nat) (ov : (Nat → Value) → ι → List (Option Value)) (os : ι → List (Option Res)) (fv : ι → List (Bool × VP)) (i0 : ι)
    (hfr : mixF fr (ov (look fr) i0) = fr) (hC : C i0) (hσ : mix σ (os i0) = σ) (hφ : ∀ p ∈ fv i0, p ∈ φ)
    (round : ∀ u i, C i → JC P c (NextS w0 σ φ fr C μ ov os fv (μ i) Q) w0 (mix σ (os i)) (fv i ++ φ) (mixF fr (ov u i))) : JC P (.loop c) Q w0 σ φ fr :=
  JC_loop ((Nat → Value) × ι) (fun i => C i.2) (fun i => μ i.2) (fun i => mix σ (os i.2)) (fun i => fv i.2 ++ φ) (fun i => mixF fr (ov i.1 i.2)) (look fr, i0) hfr.symm hC
    (fun w s => by
      simp only [hσ]
      exact s.weaken fun p hp => by
        rcases List.mem_append.1 hp with hp | hp
        · exact hφ p hp
        · exact hp)
    (fun i hC => round i.1 i.2 hC)
theorem JE_nextS {ι : Type} {C : ι → Prop} {μ : ι → Nat} {ov : (Nat → Value) → ι → List (Option Value)} {os : ι → List (Option Res)} {fv : ι → List (Bool × VP)} {n : Nat} (i : ι)
    (hfr : mixF fr (ov (look fr') i) = fr') (hC : C i) (hμ : μ i < n) (hσ : mix σ (os i) = σ') (hφ : ∀ p ∈ fv i ++ φ, p ∈ φ') : JE (NextS w0 σ φ fr C μ ov os fv n Q) .normal w0 σ' φ' fr' :=
  JE_next (look fr', i) hfr.symm hC hμ fun w s => by
    show St w0 w (mix σ (os i)) (fv i ++ φ)
    rw [hσ]
    exact s.weaken hφ
theorem JE_nextS_exit {ι : Type} {C : ι → Prop} {μ : ι → Nat} {ov : (Nat → Value) → ι → List (Option Value)} {os : ι → List (Option Res)} {fv : ι → List (Bool × VP)} {n : Nat} {id : Nat}
    (h : JE Q (.exit id) w0 σ' φ' fr') : JE (NextS w0 σ φ fr C μ ov os fv n Q) (.exit id) w0 σ' φ' fr' := fun w st => h w st
theorem JE_nextS_ret {ι : Type} {C : ι → Prop} {μ : ι → Nat} {ov : (Nat → Value) → ι → List (Option Value)} {os : ι → List (Option Res)} {fv : ι → List (Bool × VP)} {n : Nat}
    (h : JE Q .ret w0 σ' φ' fr') : JE (NextS w0 σ φ fr C μ ov os fv n Q) .ret w0 σ' φ' fr' := fun w st => h w st

def MidS {ι : Type} (w0 : Ctx) (σ : List Res) (φ : List (Bool × VP)) (fr : Fr) (C : ι → Prop) (ov : (Nat → Value) → ι → List (Option Value)) (os : ι → List (Option Res)) (fv : ι → List (Bool × VP)) (Q : Exit → Act → World → Prop) : Exit → Act → World → Prop :=
  Mid w0 (fun i : (Nat → Value) × ι => C i.2) (fun i => mix σ (os i.2)) (fun i => fv i.2 ++ φ) (fun i => mixF fr (ov i.1 i.2)) Q
theorem JC_cutS {x y : Code} (ι : Type) (C : ι → Prop) (ov : (Nat → Value) → ι → List (Option Value)) (os : ι → List (Option Res)) (fv : ι → List (Bool × VP))
    (h1 : JC P x (MidS w0 σ φ fr C ov os fv Q) w0 σ φ fr) (h2 : ∀ u i, C i → JC P y Q w0 (mix σ (os i)) (fv i ++ φ) (mixF fr (ov u i))) : JC P (.seq x y) Q w0 σ φ fr :=
  JC_cut ((Nat → Value) × ι) (fun i => C i.2) (fun i => mix σ (os i.2)) (fun i => fv i.2 ++ φ) (fun i => mixF fr (ov i.1 i.2)) h1 (fun i hC => h2 i.1 i.2 hC)
theorem JE_midS {ι : Type} {C : ι → Prop} {ov : (Nat → Value) → ι → List (Option Value)} {os : ι → List (Option Res)} {fv : ι → List (Bool × VP)} (i : ι)
    (hfr : mixF fr (ov (look fr') i) = fr') (hC : C i) (hσ : mix σ (os i) = σ') (hφ : ∀ p ∈ fv i ++ φ, p ∈ φ') : JE (MidS w0 σ φ fr C ov os fv Q) .normal w0 σ' φ' fr' :=
  JE_mid (look fr', i) hfr.symm hC fun w s => by
    show St w0 w (mix σ (os i)) (fv i ++ φ)
    rw [hσ]
    exact s.weaken hφ
theorem JE_midS_exit {ι : Type} {C : ι → Prop} {ov : (Nat → Value) → ι → List (Option Value)} {os : ι → List (Option Res)} {fv : ι → List (Bool × VP)} {id : Nat}
    (h : JE Q (.exit id) w0 σ' φ' fr') : JE (MidS w0 σ φ fr C ov os fv Q) (.exit id) w0 σ' φ' fr' := fun w st => h w st
theorem JE_midS_ret {ι : Type} {C : ι → Prop} {ov : (Nat → Value) → ι → List (Option Value)} {os : ι → List (Option Res)} {fv : ι → List (Bool × VP)}
    (h : JE Q .ret w0 σ' φ' fr') : JE (MidS w0 σ φ fr C ov os fv Q) .ret w0 σ' φ' fr' := fun w st => h w st

/-- Views of the loop's state stand ahead of the old ones. -/
theorem subset_app {α : Type} {a b l : List α} (h1 : ∀ p ∈ a, p ∈ l) (h2 : ∀ p ∈ b, p ∈ l) : ∀ p ∈ a ++ b, p ∈ l := fun p hp => by
  rcases List.mem_append.1 hp with hp | hp
  · exact h1 p hp
  · exact h2 p hp
theorem subset_nil {α : Type} {l : List α} : ∀ p ∈ ([] : List α), p ∈ l := fun _ h => by cases h
theorem subset_cons {α : Type} {a : α} {b l : List α} (h1 : a ∈ l) (h2 : ∀ p ∈ b, p ∈ l) : ∀ p ∈ a :: b, p ∈ l := fun p hp => by
  rcases List.mem_cons.1 hp with rfl | hp
  · exact h1
  · exact h2 p hp
theorem subset_refl {α : Type} {l : List α} : ∀ p ∈ l, p ∈ l := fun _ h => h
theorem subset_tail {α : Type} {a : α} {b l : List α} (h : ∀ p ∈ b, p ∈ l) : ∀ p ∈ b, p ∈ a :: l := fun p hp => List.mem_cons_of_mem _ (h p hp)

/-! ### Slices with one cell an element -/
theorem JL_idx {t e : TypeId} {x y : Operand} {ad : Option Addr} {len cap by' : Nat} {z : List Value} {kk : IntKind} {a : Int} {xs : List Value} (k : Nat) (hs : slOf P t = some (e, 1, by', z)) (hx : Ev fr x (.slice ad len cap)) (hy : Ev fr y (.int kk a))
    (ha : a = (k : Int)) (hk : k < len) (hr : Reads w0 σ φ ad xs) (hlt : k < xs.length)
    (n : JL P ops Q w0 σ φ rest (upd fr d (ptrAt ad k))) : JL P ops Q w0 σ φ (⟨some d, .indexAddr t x y, ty, pos, aft, none⟩ :: rest) fr :=
  JL_indexAddr k hs hx hy ha hk hr (by omega) (by rw [Nat.mul_one]; exact n)
theorem JL_make1 {t e : TypeId} {by' : Nat} {z : Value} {x y : Operand} {k1 k2 : IntKind} {a b : Int} (n c : Nat) (hs : slOf P t = some (e, 1, by', [z])) (hx : Ev fr x (.int k1 a)) (hy : Ev fr y (.int k2 b))
    (ha : a = (n : Int)) (hb : b = (c : Int)) (hnc : n ≤ c) (hbytes : by' * c ≤ 281474976710656) (hmax : c ≤ 9223372036854775807)
    (k : ∀ g, JL P ops Q w0 (σ ++ [osl (some ⟨g, 0, none⟩) n c e 1 (List.replicate n z)]) φ rest (upd fr d (.slice (some ⟨g, 0, none⟩) n c))) :
    JL P ops Q w0 σ φ (⟨some d, .makeSlice t x y, ty, pos, aft, none⟩ :: rest) fr := by
  refine JL_make n c hs rfl hx hy ha hb hnc hbytes hmax fun g => ?_
  have : ((List.replicate n [z]).flatten) = List.replicate n z := by
    clear k ha hx
    induction n with
    | zero => rfl
    | succ n ih => rw [List.replicate_succ, List.flatten_cons, ih (by omega), List.replicate_succ]; rfl
  rw [this]
  exact k g
/-- '[]T{x}' -/
theorem JL_build1 {t e : TypeId} {by' : Nat} {z v : Value} {x : Operand} (hs : slOf P t = some (e, 1, by', [z])) (hx : Ev fr x v) (hc : v.cells = #[v])
    (k : ∀ g, JL P ops Q w0 (σ ++ [osl (some ⟨g, 0, none⟩) 1 1 e 1 [v]]) φ rest (upd fr d (.slice (some ⟨g, 0, none⟩) 1 1))) :
    JL P ops Q w0 σ φ (⟨some d, .buildSlice t 1 #[(0, x)], ty, pos, aft, none⟩ :: rest) fr := by
  refine JL_buildSlice (pv := [(0, v)]) (vs := [v]) hs ?_ (by decide) (by decide) rfl ?_ k
  · simp [hx.eq]
  · rw [show Array.range (1 * 1) = #[0] from rfl]
    simp [Instr.fill, hc]
theorem JL_build0 {t e : TypeId} {sz by' : Nat} {zs : List Value} (hs : slOf P t = some (e, sz, by', zs))
    (k : ∀ g, JL P ops Q w0 (σ ++ [osl (some ⟨g, 0, none⟩) 0 0 e sz []]) φ rest (upd fr d (.slice (some ⟨g, 0, none⟩) 0 0))) :
    JL P ops Q w0 σ φ (⟨some d, .buildSlice t 0 #[], ty, pos, aft, none⟩ :: rest) fr := by
  refine JL_buildSlice (pv := []) (vs := []) hs (by simp) (by simp) (by decide) (by simp) ?_ k
  simp [Instr.fill, Array.range_zero']
/-- append of one cell -/
theorem JL_append1 {t e : TypeId} {by' : Nat} {z v : Value} {x y : Operand} {ad ad2 : Option Addr} {n cap c : Nat} {xs : List Value} (i j : Nat) (hs : slOf P t = some (e, 1, by', [z]))
    (hx : Ev fr x (.slice ad n cap)) (hy : Ev fr y (.slice ad2 1 c)) (hσ : Nth σ i (osl ad n cap e 1 xs)) (hj : Nth σ j (osl ad2 1 c e 1 [v])) (h1 : v.oneCell' = true)
    (h63 : n + 1 ≤ 9223372036854775807) (hbytes : (n + 1) * by' ≤ 140737488355328)
    (k : ∀ ad' cap', n + 1 ≤ cap' ∧ cap' ≤ 9223372036854775807 → JL P ops Q w0 (updL σ i (osl ad' (n + 1) cap' e 1 (xs ++ [v]))) φ rest (upd fr d (.slice ad' (n + 1) cap'))) :
    JL P ops Q w0 σ φ (⟨some d, .call { callee := .builtin .append, args := #[x, y], argTypes := #[t, t] }, ty, pos, aft, none⟩ :: rest) fr :=
  JL_append i hs rfl (by decide) hx hy hσ rfl (Reads.own j hj) (AllOne.cons h1 AllOne.nil) h63 hbytes k

/-! ### Lists of numbers as cells -/
def u32s (L : List Nat) : List Value := L.map fun (n : Nat) => Value.int .u32 (n : Int)
def i64s (L : List Int) : List Value := L.map fun n => Value.int .i64 n
theorem u32s_length (L : List Nat) : (u32s L).length = L.length := by simp [u32s]
theorem i64s_length (L : List Int) : (i64s L).length = L.length := by simp [i64s]
theorem u32s_get {L : List Nat} {k : Nat} (h : k < L.length) : (u32s L)[k]? = some (.int .u32 (L.getD k 0 : Nat)) := by
  simp [u32s, List.getD_eq_getElem?_getD, h]
theorem i64s_get {L : List Int} {k : Nat} (h : k < L.length) : (i64s L)[k]? = some (.int .i64 (L.getD k 0)) := by
  simp [i64s, List.getD_eq_getElem?_getD, h]
theorem u32s_append (L M : List Nat) : u32s L ++ u32s M = u32s (L ++ M) := by simp [u32s]
theorem u32s_snoc (L : List Nat) (n : Nat) : u32s L ++ [.int .u32 (n : Int)] = u32s (L ++ [n]) := by simp [u32s]
theorem i64s_snoc (L : List Int) (n : Int) : i64s L ++ [.int .i64 n] = i64s (L ++ [n]) := by simp [i64s]
theorem u32s_nil : u32s [] = [] := rfl
theorem i64s_nil : i64s [] = [] := rfl
theorem u32s_one (L : List Nat) : AllOne (u32s L) := fun v hv => by
  obtain ⟨n, _, rfl⟩ := List.mem_map.1 hv; rfl
theorem i64s_one (L : List Int) : AllOne (i64s L) := fun v hv => by
  obtain ⟨n, _, rfl⟩ := List.mem_map.1 hv; rfl
theorem u32s_take (L : List Nat) (k : Nat) : (u32s L).take k = u32s (L.take k) := by simp [u32s, List.map_take]
theorem u32s_drop (L : List Nat) (k : Nat) : (u32s L).drop k = u32s (L.drop k) := by simp [u32s, List.map_drop]
theorem i64s_take (L : List Int) (k : Nat) : (i64s L).take k = i64s (L.take k) := by simp [i64s, List.map_take]
theorem i64s_drop (L : List Int) (k : Nat) : (i64s L).drop k = i64s (L.drop k) := by simp [i64s, List.map_drop]
theorem u32s_set (L : List Nat) (k n : Nat) : setAll (u32s L) k [.int .u32 (n : Int)] = u32s (L.set k n) := by simp [setAll, updL_set, u32s, List.map_set]
theorem i64s_set (L : List Int) (k : Nat) (n : Int) : setAll (i64s L) k [.int .i64 n] = i64s (L.set k n) := by simp [setAll, updL_set, i64s, List.map_set]
theorem u32s_replicate (k : Nat) : List.replicate k (Value.int .u32 0) = u32s (List.replicate k 0) := by simp [u32s]
theorem i64s_replicate (k : Nat) : List.replicate k (Value.int .i64 0) = i64s (List.replicate k 0) := by simp [i64s]
end
end Go.Fw
namespace Go.Fw
open Go Go.RowKit
section
variable {P : Program} {Q : Exit → Act → World → Prop} {w0 : Ctx} {σ σ' : List Res} {φ φ' : List (Bool × VP)} {fr fr' : Fr} {ops : Array Oper} {rest : List Oper}
  {d : Nat} {ty : TypeId} {pos : String} {aft : Array Edge}
theorem all_nil : ∀ p ∈ ([] : List VP), (true, p) ∈ φ := fun _ h => by cases h
theorem all_cons {a : VP} {b : List VP} (h1 : (true, a) ∈ φ) (h2 : ∀ p ∈ b, (true, p) ∈ φ) : ∀ p ∈ a :: b, (true, p) ∈ φ := fun p hp => by
  rcases List.mem_cons.1 hp with rfl | hp
  · exact h1
  · exact h2 p hp
/-- append of a limb, of an int -/
theorem JL_appendU {t e : TypeId} {by' : Nat} {z : Value} {x y : Operand} {ad ad2 : Option Addr} {m cap c : Nat} {L : List Nat} {a : Int} (i j : Nat) (n : Nat) (hs : slOf P t = some (e, 1, by', [z]))
    (hx : Ev fr x (.slice ad m cap)) (hy : Ev fr y (.slice ad2 1 c)) (hσ : Nth σ i (osl ad m cap e 1 (u32s L))) (hj : Nth σ j (osl ad2 1 c e 1 [.int .u32 a])) (hn : a = (n : Int))
    (h63 : m + 1 ≤ 9223372036854775807) (hbytes : (m + 1) * by' ≤ 140737488355328)
    (k : ∀ ad' cap', m + 1 ≤ cap' ∧ cap' ≤ 9223372036854775807 → JL P ops Q w0 (updL σ i (osl ad' (m + 1) cap' e 1 (u32s (L ++ [n])))) φ rest (upd fr d (.slice ad' (m + 1) cap'))) :
    JL P ops Q w0 σ φ (⟨some d, .call { callee := .builtin .append, args := #[x, y], argTypes := #[t, t] }, ty, pos, aft, none⟩ :: rest) fr := by
  subst hn
  refine JL_append1 i j hs hx hy hσ hj rfl h63 hbytes fun ad' cap' hc => ?_
  rw [u32s_snoc]
  exact k ad' cap' hc
theorem JL_appendI {t e : TypeId} {by' : Nat} {z : Value} {x y : Operand} {ad ad2 : Option Addr} {m cap c : Nat} {L : List Int} {a : Int} (i j : Nat) (hs : slOf P t = some (e, 1, by', [z]))
    (hx : Ev fr x (.slice ad m cap)) (hy : Ev fr y (.slice ad2 1 c)) (hσ : Nth σ i (osl ad m cap e 1 (i64s L))) (hj : Nth σ j (osl ad2 1 c e 1 [.int .i64 a]))
    (h63 : m + 1 ≤ 9223372036854775807) (hbytes : (m + 1) * by' ≤ 140737488355328)
    (k : ∀ ad' cap', m + 1 ≤ cap' ∧ cap' ≤ 9223372036854775807 → JL P ops Q w0 (updL σ i (osl ad' (m + 1) cap' e 1 (i64s (L ++ [a])))) φ rest (upd fr d (.slice ad' (m + 1) cap'))) :
    JL P ops Q w0 σ φ (⟨some d, .call { callee := .builtin .append, args := #[x, y], argTypes := #[t, t] }, ty, pos, aft, none⟩ :: rest) fr := by
  refine JL_append1 i j hs hx hy hσ hj rfl h63 hbytes fun ad' cap' hc => ?_
  rw [i64s_snoc]
  exact k ad' cap' hc
/-- An own slice of limbs is let go, cut. -/
theorem JL_give {l : List Oper} {ad : Option Addr} {n cap sz : Nat} {E : TypeId} {xs : List Value} (i : Nat) (hi : Nth σ i (osl ad n cap E sz xs)) (k : JL P ops Q w0 (σ.eraseIdx i) ((true, vCells ad xs) :: φ) l fr) : JL P ops Q w0 σ φ l fr := JL_conv (fun _ s => s.give i hi) k
theorem JC_give {c : Code} {ad : Option Addr} {n cap sz : Nat} {E : TypeId} {xs : List Value} (i : Nat) (hi : Nth σ i (osl ad n cap E sz xs)) (k : JC P c Q w0 (σ.eraseIdx i) ((true, vCells ad xs) :: φ) fr) : JC P c Q w0 σ φ fr := JC_conv (fun _ s => s.give i hi) k
theorem JE_give {e : Exit} {ad : Option Addr} {n cap sz : Nat} {E : TypeId} {xs : List Value} (i : Nat) (hi : Nth σ i (osl ad n cap E sz xs)) (k : JE Q e w0 (σ.eraseIdx i) ((true, vCells ad xs) :: φ) fr) : JE Q e w0 σ φ fr := JE_conv (fun _ s => s.give i hi) k
theorem JL_viewTake {l : List Oper} {f : Bool} {ad : Option Addr} {xs : List Value} (m : Nat) (h : (f, vCells ad xs) ∈ φ) (k : JL P ops Q w0 σ ((f, vCells ad (xs.take m)) :: φ) l fr) : JL P ops Q w0 σ φ l fr :=
  JL_addView (fun w s j u hj => by
    rw [List.getElem?_take] at hj
    split at hj
    · exact (show CellsAt _ _ _ _ from s.views _ h) j u hj
    · cases hj) k
theorem JE_viewTake {e : Exit} {f : Bool} {ad : Option Addr} {xs : List Value} (m : Nat) (h : (f, vCells ad xs) ∈ φ) (k : JE Q e w0 σ ((f, vCells ad (xs.take m)) :: φ) fr) : JE Q e w0 σ φ fr :=
  JE_addView (fun w s j u hj => by
    rw [List.getElem?_take] at hj
    split at hj
    · exact (show CellsAt _ _ _ _ from s.views _ h) j u hj
    · cases hj) k
end
end Go.Fw

/- The program logic's rule for a region that draws its order: operations that read, call or allocate in whatever order, then a tail whose order is forced. -/
namespace Go.Fw
open Go Go.RowKit

/-! ## An invariant over all orders -/
def unl (listed : Array Bool) : Nat := listed.toList.countP (· == false)
theorem mem_ready {md : Region.Mode} {ops : Array Oper} {listed : Array Bool} {i : Nat} (h : i ∈ Region.ready md ops listed) :
    i < ops.size ∧ listed.getD i true = false ∧ ∃ o, ops[i]? = some o ∧ ∀ e ∈ o.after, Region.binds md e = true → listed.getD e.on false = true := by
  unfold Region.ready at h
  rw [List.mem_filter, List.mem_range] at h
  obtain ⟨h1, h2⟩ := h
  simp only [Bool.and_eq_true, Bool.not_eq_true'] at h2
  refine ⟨h1, h2.1, ops[i], by simp [h1], ?_⟩
  have h3 := h2.2
  rw [Array.getElem?_eq_getElem h1] at h3
  simp only [Option.map_some, Option.getD_some, Array.all_eq_true] at h3
  intro e he hb
  obtain ⟨j, hj, rfl⟩ := Array.mem_iff_getElem.1 he
  have := h3 j hj
  simpa [hb] using this
theorem ready_of {md : Region.Mode} {ops : Array Oper} {listed : Array Bool} {i : Nat} {o : Oper} (hi : ops[i]? = some o) (hl : listed.getD i true = false) (h : ∀ e ∈ o.after, Region.binds md e = true → listed.getD e.on false = true) :
    i ∈ Region.ready md ops listed := by
  obtain ⟨hlt, hget⟩ := Array.getElem?_eq_some_iff.1 hi
  unfold Region.ready
  rw [List.mem_filter, List.mem_range]
  refine ⟨hlt, ?_⟩
  simp only [hl, Bool.not_false, Bool.true_and, hi, Option.map_some, Option.getD_some, Array.all_eq_true]
  intro j hj
  cases hb : Region.binds md o.after[j] with
  | false => rfl
  | true => simpa using h _ (Array.getElem_mem hj) hb
theorem unl_set {listed : Array Bool} {i : Nat} (h : listed.getD i true = false) : unl (listed.setIfInBounds i true) + 1 = unl listed := by
  have hlt : i < listed.size := by
    rcases Nat.lt_or_ge i listed.size with h' | h'
    · exact h'
    · simp [Array.getD, Nat.not_lt.2 h'] at h
  have hv : listed.toList[i]'(by simpa using hlt) = false := by simpa [Array.getD, hlt] using h
  unfold unl
  rw [Array.toList_setIfInBounds]
  have hlt' : i < listed.toList.length := by simpa using hlt
  have e1 : listed.toList = listed.toList.take i ++ listed.toList[i] :: listed.toList.drop (i + 1) := by
    rw [List.getElem_cons_drop, List.take_append_drop]
  have e2 : listed.toList.set i true = listed.toList.take i ++ true :: listed.toList.drop (i + 1) := List.set_eq_take_append_cons_drop.trans (by rw [if_pos hlt'])
  rw [e2]
  conv => rhs; rw [e1]
  rw [hv]
  simp [List.countP_append]
  omega
theorem wpAny_inv {P : Program} {md : Region.Mode} {ops : Array Oper} {Q : Exit → Act → World → Prop} (Inv : Array Bool → Act → World → Prop)
    (hstep : ∀ listed a w i, Inv listed a w → i ∈ Region.ready md ops listed → wpOp P ops Q i (fun a' w' => Inv (listed.setIfInBounds i true) a' w') a w)
    (hend : ∀ listed a w, Inv listed a w → Region.ready md ops listed = [] → Q .normal a w) :
    ∀ (fuel : Nat) (listed : Array Bool) (a : Act) (w : World), listed.size = ops.size → unl listed ≤ fuel → Inv listed a w → wpAny P md ops Q fuel listed a w := by
  intro fuel
  induction fuel with
  | zero =>
    intro listed a w hs hu hI
    have hr : Region.ready md ops listed = [] := by
      cases hr : Region.ready md ops listed with
      | nil => rfl
      | cons i l =>
        have hm := mem_ready (md := md) (ops := ops) (listed := listed) (i := i) (by rw [hr]; exact List.mem_cons_self)
        have := unl_set hm.2.1
        omega
    exact ⟨hr, hend listed a w hI hr⟩
  | succ fuel ih =>
    intro listed a w hs hu hI
    refine ⟨fun hr => hend listed a w hI hr, fun i hi => ?_⟩
    have hm := mem_ready hi
    have hun := unl_set hm.2.1
    exact wpOp_mono (fun a' w' hI' => ih _ a' w' (by simpa using hs) (by omega) hI') (hstep listed a w i hI hi)

/-! ## What is checked of a region, by the kernel -/
def directs (l : List Oper) (i : Nat) : List Nat :=
  match l[i]? with
  | some o => (o.after.toList.filter (Region.binds .any)).map (·.on)
  | none => []
def reach (l : List Oper) : Nat → Nat → List Nat
  | 0, i => directs l i
  | f + 1, i => directs l i ++ (directs l i).flatMap (reach l f)
structure Stp where
  d : Nat
  preds : List Nat
  F : Value → VP
  al : Option (TypeId × List Value)
def isAlloc (o : Oper) : Bool := match o.op with | .alloc _ => true | _ => false
def stepOk (l : List Oper) (i d : Nat) (preds : List Nat) : Bool :=
  match l[i]? with
  | some o => o.dst == some d && (o.guard.isNone || !isAlloc o) && preds.all fun j => (directs l i).contains j
  | none => false
def drawOk (l : List Oper) (n : Nat) (ds : List (Nat × List Nat)) : Bool :=
  ds.length == n && n ≤ l.length &&
  ((List.range l.length).all fun i => (directs l i).all fun j => j < i) &&
  ((List.range n).all fun i => match ds[i]? with | some (d, ps) => stepOk l i d ps | none => false) &&
  ((ds.map (·.1)).Nodup : Bool) &&
  ((List.range l.length).all fun t => t < n || (List.range t).all fun i => (reach l t t).contains i)

/-! ## Small things on frames -/
def pends (ds : List Nat) (vals : Nat → Value) (k : Nat) : List (Nat × Value) :=
  match ds with
  | [] => []
  | d :: ds => (d, vals k) :: pends ds vals (k + 1)
theorem lkP_pends : ∀ (ds : List Nat) (vals : Nat → Value) (k : Nat) (b : List Value) (t : Nat),
    lkP (pends ds vals k) b t = match ds.idxOf? t with | some j => vals (k + j) | none => lookL b t
  | [], _, _, _, _ => rfl
  | d :: ds, vals, k, b, t => by
    rw [pends, lkP]
    by_cases h : d = t
    · subst h; simp [List.idxOf?_cons]
    · have hb : Nat.beq d t = false := by
        cases hb : Nat.beq d t with
        | false => rfl
        | true => exact absurd (Nat.eq_of_beq_eq_true hb) h
      rw [hb]
      simp only [cond_false]
      rw [lkP_pends ds vals (k + 1) b t, List.idxOf?_cons]
      simp only [beq_eq_false_iff_ne.2 h, Bool.false_eq_true, if_false]
      cases ds.idxOf? t with
      | none => rfl
      | some j => simp only [Option.map_some]; congr 1; omega
theorem act_pends_start (n : Nat) (b : List Value) (ds : List Nat) : act ⟨n, pends ds (fun i => lookL b (ds.getD i 0)) 0, b⟩ = act ⟨n, [], b⟩ := by
  unfold act
  congr 2
  apply List.map_congr_left
  intro t _
  show lkP (pends ds _ 0) b t = lookL b t
  rw [lkP_pends]
  cases h : ds.idxOf? t with
  | none => rfl
  | some j =>
    have hj : ds[j]? = some t := by
      rw [List.idxOf?, List.findIdx?_eq_some_iff_getElem] at h
      obtain ⟨hlt, h1, _⟩ := h
      rw [List.getElem?_eq_getElem hlt]
      simpa using h1
    simp [List.getD_eq_getElem?_getD, hj]
def setV (vals : Nat → Value) (i : Nat) (v : Value) : Nat → Value := fun j => if j = i then v else vals j
theorem act_pends_put (n : Nat) (b : List Value) (ds : List Nat) (hnd : ds.Nodup) (vals : Nat → Value) (i d : Nat) (hi : ds[i]? = some d) (v : Value) :
    act (upd ⟨n, pends ds vals 0, b⟩ d v) = act ⟨n, pends ds (setV vals i v) 0, b⟩ := by
  unfold act upd
  congr 2
  apply List.map_congr_left
  intro t _
  show lkP ((d, v) :: pends ds vals 0) b t = lkP (pends ds (setV vals i v) 0) b t
  rw [lkP, lkP_pends, lkP_pends]
  have hilt : i < ds.length := (List.getElem?_eq_some_iff.1 hi).1
  have hget : ds[i] = d := (List.getElem?_eq_some_iff.1 hi).2
  by_cases h : d = t
  · subst h
    have hx : ds.idxOf? d = some i := by
      rw [List.idxOf?, List.findIdx?_eq_some_iff_getElem]
      refine ⟨hilt, by simp [hget], fun j hj => ?_⟩
      have hne : ds[j] ≠ d := by
        intro e
        have := (List.pairwise_iff_getElem.1 hnd) j i (by omega) hilt hj
        exact this (by rw [e, hget])
      simpa using hne
    rw [hx]
    simp [setV]
  · have hb : Nat.beq d t = false := by
      cases hb : Nat.beq d t with
      | false => rfl
      | true => exact absurd (Nat.eq_of_beq_eq_true hb) h
    rw [hb]
    simp only [cond_false]
    cases hx : ds.idxOf? t with
    | none => rfl
    | some j =>
      have hj : ds[j]? = some t := by
        rw [List.idxOf?, List.findIdx?_eq_some_iff_getElem] at hx
        obtain ⟨hlt, h1, _⟩ := hx
        rw [List.getElem?_eq_getElem hlt]
        simpa using h1
      have hji : j ≠ i := by
        rintro rfl
        rw [hi] at hj
        exact h (by simpa using hj)
      simp [setV, hji]

theorem St.perm {w0 : Ctx} {w : World} {σ σ' : List Res} {φ : List (Bool × VP)} (h : St w0 w σ φ) (hp : σ'.Perm σ) : St w0 w σ' φ where
  base := h.base
  own r hr := h.own r (hp.mem_iff.1 hr)
  fresh r hr := h.fresh r (hp.mem_iff.1 hr)
  dist := (hp.symm.pairwise_iff (by intro x y hxy k hk hk'; exact hxy k hk' hk)).1 h.dist
  views p hpp := p.2.mono _ _ w w (h.views p hpp) (Nat.le_refl _) (fun _ _ _ => rfl) (by
    intro k _ hX
    rcases hX with ⟨s, hs', hsk⟩ | hX
    · exact .inl ⟨s, hp.mem_iff.1 hs', hsk⟩
    · exact .inr hX)

/-- A contract's result as a fact. -/
def vPost (Post : Value → List VP → Prop) (v : Value) : VP where
  holds X w := ∃ φo, Post v φo ∧ ∀ p ∈ φo, p.holds X w
  mono X X' w w' h a b c := h.elim fun φo h => ⟨φo, h.1, fun p hp => p.mono X X' w w' (h.2 p hp) a b c⟩

/-! ## The rule -/
section
variable {P : Program} {Q : Exit → Act → World → Prop} {w0 : Ctx} {σ : List Res} {φ : List (Bool × VP)} {fr : Fr} {ops : Array Oper} {rest : List Oper}
/-- What one operation of the prefix must do: give a value of which its fact holds, and keep all else. -/
def StepQ (w0 : Ctx) (σx : List Res) (φx : List (Bool × VP)) (frv : Fr) (d : Nat) (F : Value → VP) : Exit → Act → World → Prop
  | .normal, a, w => ∃ v φ'', a = act (upd frv d v) ∧ St w0 w σx φ'' ∧ (F v).holds (Xof w0 σx true) w ∧ ∀ p ∈ φx, p ∈ φ''
  | _, _, _ => False
theorem JE_step {σx : List Res} {φx φ'' : List (Bool × VP)} {frv : Fr} {d : Nat} {F : Value → VP} (v : Value) (hfr : fr = upd frv d v) (hF : ∀ w, St w0 w σx φ'' → (F v).holds (Xof w0 σx true) w) (hφ : ∀ p ∈ φx, p ∈ φ'') :
    JE (StepQ w0 σx φx frv d F) .normal w0 σx φ'' fr := fun w s => ⟨v, φ'', by rw [hfr], s, hF w s, hφ⟩
def getF (ss : List Stp) (j : Nat) : Value → VP :=
  match ss with
  | [] => fun _ => vPure True
  | s :: l => match j with
    | 0 => match s.al with
      | some _ => fun _ => vPure True
      | none => s.F
    | j + 1 => getF l j
def factsOf (ss : List Stp) (vals : Nat → Value) : List Nat → List (Bool × VP)
  | [] => []
  | j :: l => (true, getF ss j (vals j)) :: factsOf ss vals l
/-- The obligation of operation i. -/
def Obl (P : Program) (l : List Oper) (w0 : Ctx) (σ : List Res) (φ : List (Bool × VP)) (n : Nat) (b : List Value) (ss : List Stp) (s : Stp) (o : Oper) : Prop :=
  match s.al with
  | some (T, z) => o.op = .alloc T ∧ zeroOf P T = some z
  | none => ∀ (vals : Nat → Value) (ex : List Res) (ψ : List (Bool × VP)),
      JL P l.toArray (StepQ w0 (σ ++ ex) (factsOf ss vals s.preds ++ (φ ++ ψ)) ⟨n, pends (ss.map (·.d)) vals 0, b⟩ s.d s.F) w0 (σ ++ ex) (factsOf ss vals s.preds ++ (φ ++ ψ)) [o] ⟨n, pends (ss.map (·.d)) vals 0, b⟩
def Obls (P : Program) (l : List Oper) (w0 : Ctx) (σ : List Res) (φ : List (Bool × VP)) (n : Nat) (b : List Value) (ss : List Stp) : List Stp → List Oper → Prop
  | [], _ => True
  | _ :: _, [] => False
  | s :: ts, o :: os => Obl P l w0 σ φ n b ss s o ∧ Obls P l w0 σ φ n b ss ts os
/-- The blocks that the prefix has made, and the facts of its operations. -/
def madeBy (bs : Nat → Nat) : List Stp → Nat → List Res
  | [], _ => []
  | s :: l, k => match s.al with
    | some (T, z) => box (bs k) T z :: madeBy bs l (k + 1)
    | none => madeBy bs l (k + 1)
def allFacts (vals : Nat → Value) (bs : Nat → Nat) : List Stp → Nat → List (Bool × VP)
  | [], _ => []
  | s :: l, k => match s.al with
    | some _ => (true, vPure (vals k = .pointer (some ⟨bs k, 0, none⟩))) :: allFacts vals bs l (k + 1)
    | none => (true, s.F (vals k)) :: allFacts vals bs l (k + 1)

/-! ### What the checks give -/
theorem directs_spec {l : List Oper} {i : Nat} {o : Oper} (h : l[i]? = some o) {e : Edge} (he : e ∈ o.after) (hb : Region.binds .any e = true) : e.on ∈ directs l i := by
  unfold directs
  rw [h]
  exact List.mem_map.2 ⟨e, List.mem_filter.2 ⟨Array.mem_toList_iff.2 he, hb⟩, rfl⟩
theorem directs_inv {l : List Oper} {i j : Nat} (h : j ∈ directs l i) : ∃ o e, l[i]? = some o ∧ e ∈ o.after ∧ Region.binds .any e = true ∧ e.on = j := by
  unfold directs at h
  split at h
  · rename_i o ho
    obtain ⟨e, he, rfl⟩ := List.mem_map.1 h
    obtain ⟨h1, h2⟩ := List.mem_filter.1 he
    exact ⟨o, e, ho, Array.mem_toList_iff.1 h1, h2, rfl⟩
  · cases h
structure DrawOk (l : List Oper) (np : Nat) (ds : List (Nat × List Nat)) : Prop where
  len : ds.length = np
  le : np ≤ l.length
  early : ∀ i, i < l.length → ∀ j ∈ directs l i, j < i
  step : ∀ i d ps, ds[i]? = some (d, ps) → ∃ o, l[i]? = some o ∧ o.dst = some d ∧ (∀ T, o.op = .alloc T → o.guard = none) ∧ ∀ j ∈ ps, j ∈ directs l i
  nodup : (ds.map (·.1)).Nodup
  tail : ∀ t, np ≤ t → t < l.length → ∀ i, i < t → i ∈ reach l t t
theorem drawOk_spec {l : List Oper} {np : Nat} {ds : List (Nat × List Nat)} (h : drawOk l np ds = true) : DrawOk l np ds := by
  unfold drawOk at h
  simp only [Bool.and_eq_true, decide_eq_true_eq, beq_iff_eq, List.all_eq_true, List.mem_range, Bool.or_eq_true] at h
  obtain ⟨⟨⟨⟨⟨h1, h2⟩, h3⟩, h4⟩, h5⟩, h6⟩ := h
  refine ⟨h1, h2, h3, ?_, h5, ?_⟩
  · intro i d ps hi
    have hlt : i < np := by rw [← h1]; exact (List.getElem?_eq_some_iff.1 hi).1
    have := h4 i hlt
    rw [hi] at this
    unfold stepOk at this
    simp only at this
    split at this
    · rename_i o ho
      simp only [Bool.and_eq_true, beq_iff_eq, List.all_eq_true] at this
      refine ⟨o, ho, this.1.1, fun T hT => ?_, fun j hj => ?_⟩
      · have h := this.1.2
        simpa [isAlloc, hT] using h
      have := this.2 j hj
      simpa using this
    · cases this
  · intro t ht htl i hi
    rcases h6 t htl with h | h
    · omega
    · have := h i hi
      simpa using this
/-- What is listed is closed downward. -/
def Down (l : List Oper) (listed : Array Bool) : Prop := ∀ i, listed.getD i false = true → ∀ j ∈ directs l i, listed.getD j false = true
theorem reach_listed {l : List Oper} {listed : Array Bool} (hd : Down l listed) : ∀ (f t : Nat), (∀ j ∈ directs l t, listed.getD j false = true) → ∀ j ∈ reach l f t, listed.getD j false = true
  | 0, t, h, j, hj => h j hj
  | f + 1, t, h, j, hj => by
    rw [reach] at hj
    rcases List.mem_append.1 hj with hj | hj
    · exact h j hj
    · obtain ⟨k, hk, hj⟩ := List.mem_flatMap.1 hj
      exact reach_listed hd f k (hd k (h k hk)) j hj
theorem getD_set_same (listed : Array Bool) (i : Nat) (h : i < listed.size) (d : Bool) : (listed.setIfInBounds i true).getD i d = true := by simp [Array.getD, h]
theorem getD_set_other (listed : Array Bool) (i j : Nat) (h : i ≠ j) (d : Bool) : (listed.setIfInBounds i true).getD j d = listed.getD j d := by
  rw [Array.getD_eq_getD_getElem?, Array.getD_eq_getD_getElem?, Array.getElem?_setIfInBounds_ne h]
theorem Oper.wp_conv {o : Oper} {a : Act} {w : World} {K K' : Act → World → Prop} {Q Q' : Exit → Act → World → Prop} (hk : ∀ a w, K a w → K' a w) (hq : ∀ c a w, Q (.panic c) a w → Q' (.panic c) a w) (ho : LetsOut Q → LetsOut Q')
    (h : o.wp P a w K Q) : o.wp P a w K' Q' := by
  unfold Oper.wp at *
  generalize (execOp a.eval o).run P w = r at *
  cases r with
  | ok n w' =>
    cases n <;> simp only [Oper.upon] at h ⊢ <;>
      first
        | exact hk _ _ h
        | exact Calls.mono h (fun e w'' he => by cases e <;> first | exact hk _ _ he | exact hq _ _ _ he | exact ho he)
        | exact Rows.mono h (fun _ _ he => hk _ _ he)
  | halt x w' => cases x <;> simp only [Oper.upon] at h ⊢ <;> exact hq _ _ _ h

/-- The made blocks among what is listed. -/
def exOf (listed : Array Bool) (bs : Nat → Nat) : List Stp → Nat → List Res
  | [], _ => []
  | s :: l, k => match s.al with
    | some (T, z) => if listed.getD k false then box (bs k) T z :: exOf listed bs l (k + 1) else exOf listed bs l (k + 1)
    | none => exOf listed bs l (k + 1)
def setN (bs : Nat → Nat) (i x : Nat) : Nat → Nat := fun j => if j = i then x else bs j
theorem exOf_congr {listed listed' : Array Bool} {bs bs' : Nat → Nat} : ∀ (ss : List Stp) (k : Nat), (∀ j s, ss[j]? = some s → s.al ≠ none → listed.getD (k + j) false = listed'.getD (k + j) false ∧ (listed.getD (k + j) false = true → bs (k + j) = bs' (k + j))) → exOf listed bs ss k = exOf listed' bs' ss k
  | [], _, _ => rfl
  | s :: ss, k, h => by
    have ih := exOf_congr ss (k + 1) (listed := listed) (listed' := listed') (bs := bs) (bs' := bs') (fun j s' hj hne => by
      have := h (j + 1) s' (by simpa using hj) hne
      rwa [show k + (j + 1) = k + 1 + j from by omega] at this)
    rw [exOf, exOf, ih]
    cases hal : s.al with
    | none => rfl
    | some p =>
      have := h 0 s rfl (by rw [hal]; simp)
      simp only [Nat.add_zero] at this
      simp only
      rw [← this.1]
      cases hb : listed.getD k false with
      | false => rfl
      | true => simp only [if_true]; rw [this.2 hb]
theorem exOf_all {listed : Array Bool} {bs : Nat → Nat} : ∀ (ss : List Stp) (k : Nat), (∀ j, j < ss.length → listed.getD (k + j) false = true) → exOf listed bs ss k = madeBy bs ss k
  | [], _, _ => rfl
  | s :: ss, k, h => by
    have ih := exOf_all ss (k + 1) (listed := listed) (bs := bs) (fun j hj => by
      have := h (j + 1) (by simpa using hj)
      rwa [show k + (j + 1) = k + 1 + j from by omega] at this)
    rw [exOf, madeBy, ih]
    cases hal : s.al with
    | none => rfl
    | some p =>
      have := h 0 (by simp)
      simp only [Nat.add_zero] at this
      simp [this]
theorem exOf_new {listed : Array Bool} {bs : Nat → Nat} {T : TypeId} {z : List Value} {x : Nat} : ∀ (ss : List Stp) (k i : Nat) (s : Stp), ss[i]? = some s → s.al = some (T, z) → k + i < listed.size → listed.getD (k + i) false = false →
    (exOf (listed.setIfInBounds (k + i) true) (setN bs (k + i) x) ss k).Perm (exOf listed bs ss k ++ [box x T z])
  | [], _, _, _, h, _, _, _ => by simp at h
  | s :: ss, k, 0, s', h, hal, hlt, hf => by
    simp at h
    subst h
    have hc : exOf (listed.setIfInBounds (k + 0) true) (setN bs (k + 0) x) ss (k + 1) = exOf listed bs ss (k + 1) := exOf_congr ss (k + 1) fun j _ _ _ => by
      rw [getD_set_other _ _ _ (by omega)]
      exact ⟨rfl, fun _ => by simp [setN]; omega⟩
    rw [exOf, exOf, hal]
    simp only [Nat.add_zero] at hc hf hlt ⊢
    rw [getD_set_same _ _ hlt, hf, hc]
    simp only [if_true, Bool.false_eq_true, if_false]
    rw [show setN bs k x k = x from by simp [setN]]
    exact (List.perm_append_singleton _ _).symm
  | s :: ss, k, i + 1, s', h, hal, hlt, hf => by
    have ih := exOf_new (listed := listed) (bs := bs) (x := x) ss (k + 1) i s' (by simpa using h) hal (by omega) (by rw [show k + 1 + i = k + (i + 1) from by omega]; exact hf)
    rw [show k + 1 + i = k + (i + 1) from by omega] at ih
    rw [exOf, exOf]
    cases hal' : s.al with
    | none => exact ih
    | some p =>
      simp only
      rw [getD_set_other _ _ _ (by omega), show setN bs (k + (i + 1)) x k = bs k from by simp [setN]]
      split
      · exact List.Perm.cons _ ih
      · exact ih
/-- The facts of what is listed, as views. -/
def listedFacts (listed : Array Bool) (vals : Nat → Value) : List Stp → Nat → List (Bool × VP)
  | [], _ => []
  | s :: l, k => match s.al with
    | some _ => listedFacts listed vals l (k + 1)
    | none => if listed.getD k false then (true, s.F (vals k)) :: listedFacts listed vals l (k + 1) else listedFacts listed vals l (k + 1)
theorem mem_listedFacts {listed : Array Bool} {vals : Nat → Value} {p : Bool × VP} : ∀ (ss : List Stp) (k : Nat), p ∈ listedFacts listed vals ss k → ∃ j s, ss[j]? = some s ∧ s.al = none ∧ listed.getD (k + j) false = true ∧ p = (true, s.F (vals (k + j)))
  | [], _, h => by cases h
  | s :: ss, k, h => by
    rw [listedFacts] at h
    cases hal : s.al with
    | some q =>
      rw [hal] at h
      obtain ⟨j, s', h1, h2, h3, h4⟩ := mem_listedFacts ss (k + 1) h
      exact ⟨j + 1, s', by simpa using h1, h2, by rw [show k + (j + 1) = k + 1 + j from by omega]; exact h3, by rw [show k + (j + 1) = k + 1 + j from by omega]; exact h4⟩
    | none =>
      rw [hal] at h
      simp only at h
      have go : p ∈ listedFacts listed vals ss (k + 1) → ∃ j s', (s :: ss)[j]? = some s' ∧ s'.al = none ∧ listed.getD (k + j) false = true ∧ p = (true, s'.F (vals (k + j))) := fun h => by
        obtain ⟨j, s', h1, h2, h3, h4⟩ := mem_listedFacts ss (k + 1) h
        exact ⟨j + 1, s', by simpa using h1, h2, by rw [show k + (j + 1) = k + 1 + j from by omega]; exact h3, by rw [show k + (j + 1) = k + 1 + j from by omega]; exact h4⟩
      split at h
      · rename_i hb
        rcases List.mem_cons.1 h with rfl | h
        · exact ⟨0, s, rfl, hal, hb, rfl⟩
        · exact go h
      · exact go h
theorem listedFacts_mem {listed : Array Bool} {vals : Nat → Value} {s : Stp} : ∀ (ss : List Stp) (k j : Nat), ss[j]? = some s → s.al = none → listed.getD (k + j) false = true → (true, s.F (vals (k + j))) ∈ listedFacts listed vals ss k
  | [], _, _, h, _, _ => by simp at h
  | s' :: ss, k, 0, h, hal, hb => by
    simp at h
    subst h
    rw [listedFacts, hal]
    simp only [Nat.add_zero] at hb ⊢
    rw [if_pos hb]
    exact List.mem_cons_self
  | s' :: ss, k, j + 1, h, hal, hb => by
    have ih := listedFacts_mem (listed := listed) (vals := vals) (s := s) ss (k + 1) j (by simpa using h) hal (by rw [show k + 1 + j = k + (j + 1) from by omega]; exact hb)
    rw [show k + 1 + j = k + (j + 1) from by omega] at ih
    rw [listedFacts]
    cases s'.al with
    | some q => exact ih
    | none =>
      simp only
      split
      · exact List.mem_cons_of_mem _ ih
      · exact ih
theorem getF_get : ∀ {ss : List Stp} {j : Nat} {s : Stp}, ss[j]? = some s → getF ss j = match s.al with | some _ => fun _ => vPure True | none => s.F
  | [], _, _, h => by simp at h
  | s' :: ss, 0, s, h => by simp at h; subst h; rfl
  | s' :: ss, j + 1, s, h => by rw [getF]; exact getF_get (by simpa using h)
theorem mem_factsOf {ss : List Stp} {vals : Nat → Value} {p : Bool × VP} : ∀ {ps : List Nat}, p ∈ factsOf ss vals ps → ∃ j ∈ ps, p = (true, getF ss j (vals j))
  | [], h => by cases h
  | j :: l, h => by
    rw [factsOf] at h
    rcases List.mem_cons.1 h with rfl | h
    · exact ⟨j, List.mem_cons_self, rfl⟩
    · obtain ⟨k, hk, hp⟩ := mem_factsOf h
      exact ⟨k, List.mem_cons_of_mem _ hk, hp⟩
theorem mem_allFacts {vals : Nat → Value} {bs : Nat → Nat} {p : Bool × VP} : ∀ (ss : List Stp) (k : Nat), p ∈ allFacts vals bs ss k → ∃ j s, ss[j]? = some s ∧ ((s.al = none ∧ p = (true, s.F (vals (k + j)))) ∨ (s.al ≠ none ∧ p = (true, vPure (vals (k + j) = .pointer (some ⟨bs (k + j), 0, none⟩)))))
  | [], _, h => by cases h
  | s :: ss, k, h => by
    have go : p ∈ allFacts vals bs ss (k + 1) → ∃ j s', (s :: ss)[j]? = some s' ∧ ((s'.al = none ∧ p = (true, s'.F (vals (k + j)))) ∨ (s'.al ≠ none ∧ p = (true, vPure (vals (k + j) = .pointer (some ⟨bs (k + j), 0, none⟩))))) := fun h => by
      obtain ⟨j, s', h1, h2⟩ := mem_allFacts ss (k + 1) h
      rw [show k + 1 + j = k + (j + 1) from by omega] at h2
      exact ⟨j + 1, s', by simpa using h1, h2⟩
    rw [allFacts] at h
    cases hal : s.al with
    | some q =>
      rw [hal] at h
      rcases List.mem_cons.1 h with rfl | h
      · exact ⟨0, s, rfl, .inr ⟨by rw [hal]; simp, rfl⟩⟩
      · exact go h
    | none =>
      rw [hal] at h
      rcases List.mem_cons.1 h with rfl | h
      · exact ⟨0, s, rfl, .inl ⟨hal, rfl⟩⟩
      · exact go h
theorem Obls.get {l : List Oper} {n : Nat} {b : List Value} {ss : List Stp} : ∀ {ts : List Stp} {os : List Oper} (_ : Obls P l w0 σ φ n b ss ts os) (i : Nat) (s : Stp) (o : Oper), ts[i]? = some s → os[i]? = some o → Obl P l w0 σ φ n b ss s o
  | [], _, _, _, _, _, h, _ => by simp at h
  | _ :: _, [], h, _, _, _, _, _ => h.elim
  | t :: ts, o' :: os, h, 0, s, o, h1, h2 => by simp at h1 h2; subst h1 h2; exact h.1
  | t :: ts, o' :: os, h, i + 1, s, o, h1, h2 => Obls.get h.2 i s o (by simpa using h1) (by simpa using h2)

/-- The state while the prefix runs. -/
structure Pre (w0 : Ctx) (σ : List Res) (φ : List (Bool × VP)) (n : Nat) (b : List Value) (ss : List Stp) (listed : Array Bool) (vals : Nat → Value) (bs : Nat → Nat) (a : Act) (w : World) : Prop where
  fr : a = act ⟨n, pends (ss.map (·.d)) vals 0, b⟩
  st : St w0 w (σ ++ exOf listed bs ss 0) φ
  made : ∀ i s, ss[i]? = some s → s.al ≠ none → listed.getD i false = true → vals i = .pointer (some ⟨bs i, 0, none⟩)
  fact : ∀ i s, ss[i]? = some s → s.al = none → listed.getD i false = true → (s.F (vals i)).holds (Xof w0 (σ ++ exOf listed bs ss 0) true) w

theorem wpList_one {l : List Oper} {o : Oper} {a : Act} {w : World} {Qs : Exit → Act → World → Prop} (hno : ∀ c a w, ¬ Qs (.panic c) a w) (hout : ¬ LetsOut Qs) (h : wpList P l.toArray Qs [o] a w) {K : Act → World → Prop} {Q : Exit → Act → World → Prop} (hk : ∀ a w, Qs .normal a w → K a w) :
    if Region.wanted o (yielded l.toArray a.tmps) then o.wp P a w K Q ∨ (o.asks P a w ∧ LetsOut Q) else K (a.put o.dst undef) w := by
  unfold wpList at h
  split at h
  · rename_i hw
    rw [if_pos hw]
    rcases h with h | h
    · exact .inl (Oper.wp_conv hk (fun c a w h => (hno c a w h).elim) (fun h => (hout h).elim) h)
    · exact (hout h.2).elim
  · rename_i hw
    rw [if_neg hw]
    exact hk _ _ h
theorem alloc_wp {o : Oper} {T : TypeId} {z : List Value} {d : Nat} {w : World} {K : Act → World → Prop} {Q : Exit → Act → World → Prop} (ho : o.op = .alloc T) (hd : o.dst = some d) (hz : zeroOf P T = some z)
    (hk : K (act (upd fr d (.pointer (some ⟨w.heap.size, 0, none⟩)))) (w.alloc (.cells z.toArray T (0, 0)))) : o.wp P (act fr) w K Q := by
  unfold zeroOf at hz
  cases hi : P.info? T with
  | none => simp [hi] at hz
  | some i =>
    cases hzv : i.zero with
    | none => simp [hi, hzv] at hz
    | some zv =>
      simp [hi, hzv] at hz
      have hrun : (execOp (ev fr) o).run P w = .ok (.value (.pointer (some ⟨w.heap.size, 0, none⟩))) (w.alloc (.cells z.toArray T (0, 0))) := by
        simp [execOp, ho, Instr.alloc, newVar, newRow, zeroValue, typeInfo, hi, hzv, ← hz]
      unfold Oper.wp
      rw [act_eval_fun, hrun]
      show K ((act fr).put o.dst _) _
      rw [hd, act_put]
      exact hk

theorem Pre.step {l : List Oper} {np n : Nat} {b : List Value} {ss : List Stp} {listed : Array Bool} {vals : Nat → Value} {bs : Nat → Nat} {a : Act} {w : World} (hok : DrawOk l np (ss.map fun s => (s.d, s.preds)))
    (hob : Obls P l w0 σ φ n b ss ss l) (hp : Pre w0 σ φ n b ss listed vals bs a w) {i : Nat} {s : Stp} {o : Oper} (hs : ss[i]? = some s) (ho : l[i]? = some o) (hsz : i < listed.size) (hun : listed.getD i true = false) (hpr : ∀ j ∈ directs l i, listed.getD j false = true) :
    ∀ {Q : Exit → Act → World → Prop}, if Region.wanted o (yielded l.toArray a.tmps) then o.wp P a w (fun a' w' => ∃ vals' bs', Pre w0 σ φ n b ss (listed.setIfInBounds i true) vals' bs' a' w') Q ∨ (o.asks P a w ∧ LetsOut Q)
      else (∃ vals' bs', Pre w0 σ φ n b ss (listed.setIfInBounds i true) vals' bs' (a.put o.dst undef) w) := by
  obtain ⟨o', ho', hdst, hgd, hps⟩ := hok.step i s.d s.preds (by rw [List.getElem?_map, hs]; rfl)
  obtain rfl : o = o' := by rw [ho] at ho'; simpa using ho'
  have hob' := hob.get i s o hs ho
  have hunf : listed.getD i false = false := by simpa [Array.getD, hsz] using hun
  have hdi : (ss.map (·.d))[i]? = some s.d := by rw [List.getElem?_map, hs]; rfl
  have hnd : (ss.map (·.d)).Nodup := by have := hok.nodup; rwa [List.map_map] at this
  intro Q
  have hfr := hp.fr
  subst hfr
  unfold Obl at hob'
  cases hal : s.al with
  | some p =>
    obtain ⟨T, z⟩ := p
    rw [hal] at hob'
    rw [if_pos (by simp [Region.wanted, hgd T hob'.1])]
    refine .inl (alloc_wp hob'.1 hdst hob'.2 ⟨setV vals i (.pointer (some ⟨w.heap.size, 0, none⟩)), setN bs i w.heap.size, ?_⟩)
    have hst := (hp.st.addBox T z)
    have hperm : (σ ++ exOf (listed.setIfInBounds i true) (setN bs i w.heap.size) ss 0).Perm ((σ ++ exOf listed bs ss 0) ++ [box w.heap.size T z]) := by
      rw [List.append_assoc]
      refine List.Perm.append_left _ ?_
      have := exOf_new (listed := listed) (bs := bs) (x := w.heap.size) ss 0 i s hs hal (by simpa using hsz) (by simpa using hunf)
      simpa using this
    refine ⟨act_pends_put n b _ hnd vals i s.d hdi _, hst.perm hperm, ?_, ?_⟩
    · intro j s' hj hne hl
      by_cases h : j = i
      · subst h; simp [setV, setN]
      · rw [getD_set_other _ _ _ (fun e => h e.symm)] at hl
        have := hp.made j s' hj hne hl
        simp [setV, setN, h, this]
    · intro j s' hj hn hl
      have h : j ≠ i := by rintro rfl; rw [hs] at hj; simp at hj; subst hj; rw [hal] at hn; cases hn
      rw [getD_set_other _ _ _ (fun e => h e.symm)] at hl
      have hf := hp.fact j s' hj hn hl
      rw [show setV vals i _ j = vals j from by simp [setV, h]]
      refine VP.mono _ _ _ w _ hf (by simp) (fun k hk _ => Below.heap_alloc _ _ _ hk) ?_
      intro k hk hX
      rcases hX with ⟨r, hr, hrk⟩ | hX
      · rcases List.mem_append.1 (hperm.mem_iff.1 hr) with hr | hr
        · exact .inl ⟨r, hr, hrk⟩
        · obtain rfl := List.mem_singleton.1 hr
          simp [box] at hrk
          omega
      · exact .inr hX
  | none =>
    rw [hal] at hob'
    have hst : St w0 w (σ ++ exOf listed bs ss 0) (factsOf ss vals s.preds ++ (φ ++ listedFacts listed vals ss 0)) := by
      refine ⟨hp.st.base, hp.st.own, hp.st.fresh, hp.st.dist, fun p hpm => ?_⟩
      rcases List.mem_append.1 hpm with hpm | hpm
      · obtain ⟨j, hj, rfl⟩ := mem_factsOf hpm
        have hjl := hpr j (hps j hj)
        have hji : j < i := hok.early i (List.getElem?_eq_some_iff.1 ho).1 j (hps j hj)
        have hjs : j < ss.length := by have := (List.getElem?_eq_some_iff.1 hs).1; omega
        have hg : ss[j]? = some ss[j] := List.getElem?_eq_getElem hjs
        rw [getF_get hg]
        cases hal' : (ss[j]).al with
        | none => exact hp.fact j _ hg hal' hjl
        | some q => exact trivial
      · rcases List.mem_append.1 hpm with hpm | hpm
        · exact hp.st.views p hpm
        · obtain ⟨j, s', h1, h2, h3, rfl⟩ := mem_listedFacts ss 0 hpm
          simp only [Nat.zero_add] at h3 ⊢
          exact hp.fact j s' h1 h2 h3
    refine wpList_one (fun c a w h => h) (fun h => by obtain ⟨a, w, h⟩ := h; exact h) (hob' vals (exOf listed bs ss 0) (listedFacts listed vals ss 0) w hst) ?_
    rintro a' w' ⟨v, φ'', rfl, hst', hF, hsub⟩
    refine ⟨setV vals i v, bs, ?_⟩
    have hex : exOf (listed.setIfInBounds i true) bs ss 0 = exOf listed bs ss 0 := exOf_congr ss 0 fun j s' hj hne => by
      have h : j ≠ i := by rintro rfl; rw [hs] at hj; simp at hj; subst hj; exact hne hal
      rw [Nat.zero_add, getD_set_other _ _ _ (fun e => h e.symm)]
      exact ⟨rfl, fun _ => rfl⟩
    refine ⟨act_pends_put n b _ hnd vals i s.d hdi v, ?_, ?_, ?_⟩
    · rw [hex]
      exact hst'.weaken fun p hp' => hsub p (List.mem_append_right _ (List.mem_append_left _ hp'))
    · intro j s' hj hne hl
      have h : j ≠ i := by rintro rfl; rw [hs] at hj; simp at hj; subst hj; exact hne hal
      rw [getD_set_other _ _ _ (fun e => h e.symm)] at hl
      rw [show setV vals i v j = vals j from by simp [setV, h]]
      exact hp.made j s' hj hne hl
    · intro j s' hj hn hl
      rw [hex]
      by_cases h : j = i
      · subst h
        rw [hs] at hj
        simp at hj
        subst hj
        simpa [setV] using hF
      · rw [getD_set_other _ _ _ (fun e => h e.symm)] at hl
        rw [show setV vals i v j = vals j from by simp [setV, h]]
        have hm := listedFacts_mem (listed := listed) (vals := vals) ss 0 j hj hn (by simpa using hl)
        simp only [Nat.zero_add] at hm
        exact hst'.views _ (hsub _ (List.mem_append_right _ (List.mem_append_right _ hm)))

/-- Behind the prefix: the tail, in its order. -/
structure Tail (P : Program) (l : List Oper) (Q : Exit → Act → World → Prop) (k : Nat) (listed : Array Bool) (a : Act) (w : World) : Prop where
  below : ∀ i, i < k → listed.getD i false = true
  above : ∀ i, k ≤ i → listed.getD i false = false
  go : wpList P l.toArray Q (l.drop k) a w

theorem JC_draw (hm : P.follows .mixedOrders = true) {id : Nat} {l : List Oper} (np n : Nat) {b : List Value} (ss : List Stp) (hok : drawOk l np (ss.map fun s => (s.d, s.preds)) = true) (hob : Obls P l w0 σ φ n b ss ss l)
    (hfin : ∀ vals bs, JL P l.toArray Q w0 (σ ++ madeBy bs ss 0) (allFacts vals bs ss 0 ++ φ) (l.drop np) ⟨n, pends (ss.map (·.d)) vals 0, b⟩) :
    JC P (.region id l.toArray true) Q w0 σ φ ⟨n, [], b⟩ := by
  intro w s
  have ok := drawOk_spec hok
  have hssl : ss.length = np := by have := ok.len; simpa using this
  refine wp_region_any hm ?_
  let Inv : Array Bool → Act → World → Prop := fun listed a w =>
    listed.size = l.length ∧ Down l listed ∧
      (((∀ i, np ≤ i → listed.getD i false = false) ∧ ∃ vals bs, Pre w0 σ φ n b ss listed vals bs a w) ∨ ∃ k, np ≤ k ∧ Tail P l Q k listed a w)
  -- when all of the prefix is listed, the tail begins
  have toTail : ∀ listed a w, listed.size = l.length → (∀ i, np ≤ i → listed.getD i false = false) → (∀ i, i < np → listed.getD i false = true) → (∃ vals bs, Pre w0 σ φ n b ss listed vals bs a w) → Tail P l Q np listed a w := by
    rintro listed a w hs h1 h2 ⟨vals, bs, hp⟩
    refine ⟨h2, h1, ?_⟩
    have hfr := hp.fr
    subst hfr
    have hex : exOf listed bs ss 0 = madeBy bs ss 0 := exOf_all ss 0 fun j hj => by rw [Nat.zero_add]; exact h2 j (by omega)
    have hst := hp.st
    have hfact := hp.fact
    rw [hex] at hst hfact
    refine hfin vals bs w ⟨hst.base, hst.own, hst.fresh, hst.dist, fun p hpm => ?_⟩
    rcases List.mem_append.1 hpm with hpm | hpm
    · obtain ⟨j, s', h3, h4⟩ := mem_allFacts ss 0 hpm
      rw [Nat.zero_add] at h4
      have hj : j < np := by have := (List.getElem?_eq_some_iff.1 h3).1; omega
      rcases h4 with ⟨hn, rfl⟩ | ⟨hn, rfl⟩
      · exact hfact j s' h3 hn (h2 j hj)
      · exact hp.made j s' h3 hn (h2 j hj)
    · exact hst.views p hpm
  -- an index that is ready: all that comes before it in the order is listed
  have tailPre : ∀ (listed : Array Bool), Down l listed → ∀ i, i ∈ Region.ready .any l.toArray listed → (∀ j ∈ directs l i, listed.getD j false = true) ∧ (np ≤ i → ∀ j, j < i → listed.getD j false = true) := by
    intro listed hd i hi
    obtain ⟨h1, h2, o, ho, h3⟩ := mem_ready hi
    have hdir : ∀ j ∈ directs l i, listed.getD j false = true := by
      intro j hj
      obtain ⟨o', e, ho', he, hb, rfl⟩ := directs_inv hj
      have : o = o' := by
        have h4 : l[i]? = some o := by simpa using ho
        rw [h4] at ho'; simpa using ho'
      subst this
      exact h3 e he hb
    exact ⟨hdir, fun hnp j hj => reach_listed hd i i hdir j (ok.tail i hnp (by omega) j hj)⟩
  have down_set : ∀ (listed : Array Bool) (i : Nat), listed.size = l.length → i < l.length → Down l listed → (∀ j ∈ directs l i, listed.getD j false = true) → Down l (listed.setIfInBounds i true) := by
    intro listed i hs hi hd hdir j hj k hk
    by_cases h : i = k
    · subst h; exact getD_set_same _ _ (by omega) _
    · rw [getD_set_other _ _ _ h]
      by_cases h' : i = j
      · subst h'; exact hdir k hk
      · rw [getD_set_other _ _ _ h'] at hj
        exact hd j hj k hk
  refine wpAny_inv Inv ?_ ?_ _ _ _ _ (by simp) (by simp [unl, List.countP_replicate]) ?_
  · rintro listed a w i ⟨hs, hd, hI⟩ hi
    obtain ⟨h1, h2, o, ho, h3⟩ := mem_ready hi
    have ho' : l[i]? = some o := by simpa using ho
    have hil : i < l.length := by simpa using h1
    obtain ⟨hdir, htl⟩ := tailPre listed hd i hi
    have hds := down_set listed i hs hil hd hdir
    have hI' : ((∀ i, np ≤ i → listed.getD i false = false) ∧ (∃ vals bs, Pre w0 σ φ n b ss listed vals bs a w) ∧ i < np) ∨ ∃ k, np ≤ k ∧ Tail P l Q k listed a w := by
      rcases hI with ⟨hA, hP⟩ | hT
      · rcases Nat.lt_or_ge i np with hlt | hge
        · exact .inl ⟨hA, hP, hlt⟩
        · exact .inr ⟨np, Nat.le_refl _, toTail listed a w hs hA (fun j hj => htl hge j (by omega)) hP⟩
      · exact .inr hT
    rcases hI' with ⟨hA, ⟨vals, bs, hP⟩, hlt⟩ | ⟨k, hk, hT⟩
    · have hss : ss[i]? = some (ss[i]'(by omega)) := List.getElem?_eq_getElem (by omega)
      have hstep := Pre.step ok hob hP hss ho' (by omega) h2 hdir (Q := Q)
      have hmono : ∀ a' w', (∃ vals' bs', Pre w0 σ φ n b ss (listed.setIfInBounds i true) vals' bs' a' w') → Inv (listed.setIfInBounds i true) a' w' := fun a' w' hex =>
        ⟨by simpa using hs, hds, .inl ⟨fun j hj => by rw [getD_set_other _ _ _ (by omega)]; exact hA j hj, hex⟩⟩
      unfold wpOp
      rw [ho]
      simp only
      split at hstep
      · rename_i hw
        rw [if_pos hw]
        exact hstep.imp (Oper.wp_mono hmono) (fun h => h)
      · rename_i hw
        rw [if_neg hw]
        exact hmono _ _ hstep
    · -- the tail: only k is ready
      have hki : k = i := by
        have h4 : listed.getD i false = false := by simpa [Array.getD, h1, hs, hil] using h2
        have h5 : k ≤ i := by
          rcases Nat.lt_or_ge i k with h | h
          · have := hT.below i h; rw [this] at h4; cases h4
          · exact h
        rcases Nat.lt_or_ge k i with h | h
        · have := htl (by omega) k h
          rw [hT.above k (Nat.le_refl _)] at this
          cases this
        · omega
      subst hki
      have hgo := hT.go
      rw [List.drop_eq_getElem_cons hil] at hgo
      have hget : l[k] = o := by rw [List.getElem?_eq_getElem hil] at ho'; simpa using ho'
      rw [hget] at hgo
      have hnext : ∀ a' w', wpList P l.toArray Q (l.drop (k + 1)) a' w' → Inv (listed.setIfInBounds k true) a' w' := by
        intro a' w' h
        refine ⟨by simpa using hs, hds, .inr ⟨k + 1, by omega, ⟨?_, ?_, h⟩⟩⟩
        · intro j hj
          by_cases e : k = j
          · subst e; exact getD_set_same _ _ (by omega) _
          · rw [getD_set_other _ _ _ e]; exact hT.below j (by omega)
        · intro j hj
          rw [getD_set_other _ _ _ (by omega)]
          exact hT.above j (by omega)
      unfold wpOp
      rw [ho]
      simp only
      unfold wpList at hgo
      split at hgo
      · rename_i hw
        rw [if_pos hw]
        exact hgo.imp (Oper.wp_mono hnext) (fun h => h)
      · rename_i hw
        rw [if_neg hw]
        exact hnext _ _ hgo
  · rintro listed a w ⟨hs, hd, hI⟩ hr
    -- nothing is ready: all is listed
    have hall : ∀ i, i < l.length → listed.getD i false = true := by
      intro i
      induction i using Nat.strongRecOn with
      | _ i ih =>
        intro hi
        cases hl : listed.getD i false with
        | true => rfl
        | false =>
          exfalso
          have : i ∈ Region.ready .any l.toArray listed := by
            refine ready_of (o := l[i]) (by simp [hi]) (by simpa [Array.getD, hs, hi] using hl) ?_
            intro e he hb
            have hdir := directs_spec (l := l) (i := i) (List.getElem?_eq_getElem hi) he hb
            have := ok.early i hi _ hdir
            exact ih e.on this (by omega)
          rw [hr] at this
          cases this
    have hT : ∃ k, np ≤ k ∧ Tail P l Q k listed a w := by
      rcases hI with ⟨hA, hP⟩ | hT
      · exact ⟨np, Nat.le_refl _, toTail listed a w hs hA (fun j hj => hall j (by have := ok.le; omega)) hP⟩
      · exact hT
    obtain ⟨k, hk, hT⟩ := hT
    have hkl : l.length ≤ k := by
      rcases Nat.lt_or_ge k l.length with h | h
      · have := hall k h
        rw [hT.above k (Nat.le_refl _)] at this
        cases this
      · exact h
    have hgo := hT.go
    rw [List.drop_eq_nil_of_le hkl] at hgo
    exact hgo
  · have hrep' : ∀ i, (Array.replicate l.toArray.size false).getD i false = false := fun i => by simp [Array.getD]
    refine ⟨by simp, fun i hi => (by rw [hrep' i] at hi; cases hi), .inl ⟨fun i _ => hrep' i, fun i => lookL b ((ss.map (·.d)).getD i 0), fun _ => 0, ?_⟩⟩
    refine ⟨(act_pends_start n b _).symm, ?_, fun i _ _ _ h => (by rw [hrep' i] at h; cases h), fun i _ _ _ h => (by rw [hrep' i] at h; cases h)⟩
    have hex : exOf (Array.replicate l.toArray.size false) (fun _ => 0) ss 0 = [] := by
      have : ∀ (ts : List Stp) (k : Nat), exOf (Array.replicate l.toArray.size false) (fun _ => 0) ts k = [] := by
        intro ts
        induction ts with
        | nil => intro k; rfl
        | cons t ts ih =>
          intro k
          rw [exOf, ih]
          cases t.al with
          | none => rfl
          | some q => simp only; rw [hrep' k]; rfl
      exact this ss 0
    rw [hex, List.append_nil]
    exact s.ext ((Below.refl _ _).drew)
end
end Go.Fw

/-! The rule for a region that draws its order, in the form in which walks use it: known values stand in the frame, results of calls come with their contract's words. -/
namespace Go.Fw
open Go Go.RowKit

structure Sp where
  d : Nat
  preds : List Nat
  pv : Option Value
  post : Value → List VP → Prop
  al : Option (TypeId × List Value)
/-- The value V, whatever the order. -/
def spV (d : Nat) (preds : List Nat) (V : Value) : Sp := ⟨d, preds, some V, fun _ _ => True, none⟩
/-- A call's result. -/
def spC (d : Nat) (preds : List Nat) (Post : Value → List VP → Prop) : Sp := ⟨d, preds, none, Post, none⟩
/-- A new variable. -/
def spA (d : Nat) (T : TypeId) (z : List Value) : Sp := ⟨d, [], none, fun _ _ => True, some (T, z)⟩
def Sp.F (s : Sp) : Value → VP :=
  match s.pv with
  | some V => fun v => vPure (v = V)
  | none => vPost s.post
def Sp.toStp (s : Sp) : Stp := ⟨s.d, s.preds, s.F, s.al⟩
def pendsO (ps : List Nat) (vals : Nat → Value) : List Sp → Nat → List (Nat × Value)
  | [], _ => []
  | s :: l, k => (s.d, match s.al with
    | some _ => vals k
    | none => match s.pv with
      | some V => bif ps.contains k then V else vals k
      | none => vals k) :: pendsO ps vals l (k + 1)
def pendsF (vals : Nat → Value) (bs : Nat → Nat) : List Sp → Nat → List (Nat × Value)
  | [], _ => []
  | s :: l, k => (s.d, match s.al with
    | some _ => .pointer (some ⟨bs k, 0, none⟩)
    | none => match s.pv with
      | some V => V
      | none => vals k) :: pendsF vals bs l (k + 1)
/-- Of the predecessors those that are calls: their facts. -/
def postFacts (ss : List Sp) (vals : Nat → Value) : List Nat → List (Bool × VP)
  | [] => []
  | j :: l => match ss[j]? with
    | some s => match s.al with
      | some _ => postFacts ss vals l
      | none => match s.pv with
        | some _ => postFacts ss vals l
        | none => (true, vPost s.post (vals j)) :: postFacts ss vals l
    | none => postFacts ss vals l
def allPosts (vals : Nat → Value) : List Sp → Nat → List (Bool × VP)
  | [], _ => []
  | s :: l, k => match s.al with
    | some _ => allPosts vals l (k + 1)
    | none => match s.pv with
      | some _ => allPosts vals l (k + 1)
      | none => (true, vPost s.post (vals k)) :: allPosts vals l (k + 1)
def madeS (bs : Nat → Nat) : List Sp → Nat → List Res
  | [], _ => []
  | s :: l, k => match s.al with
    | some (T, z) => box (bs k) T z :: madeS bs l (k + 1)
    | none => madeS bs l (k + 1)

section
variable {P : Program} {Q : Exit → Act → World → Prop} {w0 : Ctx} {σ : List Res} {φ : List (Bool × VP)} {fr : Fr} {ops : Array Oper} {rest : List Oper}
def OblS (P : Program) (l : List Oper) (w0 : Ctx) (σ : List Res) (φ : List (Bool × VP)) (n : Nat) (b : List Value) (ss : List Sp) (s : Sp) (o : Oper) : Prop :=
  match s.al with
  | some (T, z) => o.op = .alloc T ∧ zeroOf P T = some z
  | none => ∀ (vals : Nat → Value) (ex : List Res) (ψ : List (Bool × VP)),
      JL P l.toArray (StepQ w0 (σ ++ ex) (postFacts ss vals s.preds ++ (φ ++ ψ)) ⟨n, pendsO s.preds vals ss 0, b⟩ s.d s.F) w0 (σ ++ ex) (postFacts ss vals s.preds ++ (φ ++ ψ)) [o] ⟨n, pendsO s.preds vals ss 0, b⟩
def OblsS (P : Program) (l : List Oper) (w0 : Ctx) (σ : List Res) (φ : List (Bool × VP)) (n : Nat) (b : List Value) (ss : List Sp) : List Sp → List Oper → Prop
  | [], _ => True
  | _ :: _, [] => False
  | s :: ts, o :: os => OblS P l w0 σ φ n b ss s o ∧ OblsS P l w0 σ φ n b ss ts os
theorem OblS_al {l : List Oper} {n : Nat} {b : List Value} {ss : List Sp} {d : Nat} {T : TypeId} {z : List Value} {o : Oper} (h1 : o.op = .alloc T) (h2 : zeroOf P T = some z) : OblS P l w0 σ φ n b ss (spA d T z) o := ⟨h1, h2⟩
theorem OblS_V {l : List Oper} {n : Nat} {b : List Value} {ss : List Sp} {d : Nat} {preds : List Nat} {V : Value} {o : Oper}
    (h : ∀ (vals : Nat → Value) (ex : List Res) (ψ : List (Bool × VP)), JL P l.toArray (StepQ w0 (σ ++ ex) (postFacts ss vals preds ++ (φ ++ ψ)) ⟨n, pendsO preds vals ss 0, b⟩ d (fun v => vPure (v = V))) w0 (σ ++ ex) (postFacts ss vals preds ++ (φ ++ ψ)) [o] ⟨n, pendsO preds vals ss 0, b⟩) :
    OblS P l w0 σ φ n b ss (spV d preds V) o := h
theorem OblS_C {l : List Oper} {n : Nat} {b : List Value} {ss : List Sp} {d : Nat} {preds : List Nat} {Post : Value → List VP → Prop} {o : Oper}
    (h : ∀ (vals : Nat → Value) (ex : List Res) (ψ : List (Bool × VP)), JL P l.toArray (StepQ w0 (σ ++ ex) (postFacts ss vals preds ++ (φ ++ ψ)) ⟨n, pendsO preds vals ss 0, b⟩ d (vPost Post)) w0 (σ ++ ex) (postFacts ss vals preds ++ (φ ++ ψ)) [o] ⟨n, pendsO preds vals ss 0, b⟩) :
    OblS P l w0 σ φ n b ss (spC d preds Post) o := h

theorem getF_toStp {ss : List Sp} {j : Nat} {s : Sp} (h : ss[j]? = some s) (hal : s.al = none) : getF (ss.map Sp.toStp) j = s.F := by
  have h' : (ss.map Sp.toStp)[j]? = some s.toStp := by rw [List.getElem?_map, h]; rfl
  rw [getF_get h']
  show (match s.al with | some _ => fun _ => vPure True | none => s.F) = s.F
  rw [hal]
/-- Where the facts of the predecessors hold, the frame is the plain one. -/
theorem pendsO_eq {vals : Nat → Value} {ps : List Nat} : ∀ (ss : List Sp) (k : Nat), (∀ j s V, ss[j]? = some s → s.al = none → s.pv = some V → k + j ∈ ps → vals (k + j) = V) → pendsO ps vals ss k = pends ((ss.map Sp.toStp).map (·.d)) vals k
  | [], _, _ => rfl
  | s :: ss, k, h => by
    have ih := pendsO_eq (vals := vals) (ps := ps) ss (k + 1) (fun j s' V hj hal hpv hm => by
      have := h (j + 1) s' V (by simpa using hj) hal hpv (by rwa [show k + (j + 1) = k + 1 + j from by omega])
      rwa [show k + (j + 1) = k + 1 + j from by omega] at this)
    rw [pendsO, ih]
    show _ = (s.d, vals k) :: _
    congr 1
    cases hal : s.al with
    | some q => rfl
    | none =>
      cases hpv : s.pv with
      | none => rfl
      | some V =>
        cases hb : ps.contains k with
        | false => rfl
        | true =>
          have := h 0 s V rfl hal hpv (by simpa using hb)
          simp only [Nat.add_zero] at this
          simp [this]
theorem pendsF_eq {vals : Nat → Value} {bs : Nat → Nat} : ∀ (ss : List Sp) (k : Nat), (∀ j s V, ss[j]? = some s → s.al = none → s.pv = some V → vals (k + j) = V) → (∀ j s q, ss[j]? = some s → s.al = some q → vals (k + j) = .pointer (some ⟨bs (k + j), 0, none⟩)) → pendsF vals bs ss k = pends ((ss.map Sp.toStp).map (·.d)) vals k
  | [], _, _, _ => rfl
  | s :: ss, k, h, h' => by
    have ih := pendsF_eq (vals := vals) (bs := bs) ss (k + 1) (fun j s' V hj hal hpv => by
      have := h (j + 1) s' V (by simpa using hj) hal hpv
      rwa [show k + (j + 1) = k + 1 + j from by omega] at this) (fun j s' q hj hal => by
      have := h' (j + 1) s' q (by simpa using hj) hal
      rwa [show k + (j + 1) = k + 1 + j from by omega] at this)
    rw [pendsF, ih]
    show _ = (s.d, vals k) :: _
    congr 1
    cases hal : s.al with
    | some q =>
      have := h' 0 s q rfl hal
      simp only [Nat.add_zero] at this
      simp [this]
    | none =>
      cases hpv : s.pv with
      | none => rfl
      | some V =>
        have := h 0 s V rfl hal hpv
        simp only [Nat.add_zero] at this
        simp [this]
theorem madeS_eq {bs : Nat → Nat} : ∀ (ss : List Sp) (k : Nat), madeS bs ss k = madeBy bs (ss.map Sp.toStp) k
  | [], _ => rfl
  | s :: ss, k => by
    rw [madeS, madeS_eq ss (k + 1)]
    show _ = (match s.al with | some (T, z) => box (bs k) T z :: madeBy bs (ss.map Sp.toStp) (k + 1) | none => madeBy bs (ss.map Sp.toStp) (k + 1))
    rfl
theorem postFacts_sub {ss : List Sp} {vals : Nat → Value} : ∀ {ps : List Nat}, ∀ p ∈ postFacts ss vals ps, p ∈ factsOf (ss.map Sp.toStp) vals ps
  | [], p, h => by cases h
  | j :: l, p, h => by
    rw [factsOf]
    rw [postFacts] at h
    cases hj : ss[j]? with
    | none => rw [hj] at h; exact List.mem_cons_of_mem _ (postFacts_sub p h)
    | some s =>
      rw [hj] at h
      simp only at h
      cases hal : s.al with
      | some q => rw [hal] at h; exact List.mem_cons_of_mem _ (postFacts_sub p h)
      | none =>
        rw [hal] at h
        simp only at h
        cases hpv : s.pv with
        | some V => rw [hpv] at h; exact List.mem_cons_of_mem _ (postFacts_sub p h)
        | none =>
          rw [hpv] at h
          rcases List.mem_cons.1 h with rfl | h
          · have hF : getF (ss.map Sp.toStp) j = vPost s.post := by
              rw [getF_toStp hj hal]; unfold Sp.F; rw [hpv]
            rw [hF]
            exact List.mem_cons_self
          · exact List.mem_cons_of_mem _ (postFacts_sub p h)
/-- Every fact of a predecessor: a known value, a call's words, or nothing. -/
theorem factsOf_cases {ss : List Sp} {vals : Nat → Value} {p : Bool × VP} : ∀ {ps : List Nat}, p ∈ factsOf (ss.map Sp.toStp) vals ps → p ∈ postFacts ss vals ps ∨ (p.1 = true ∧ (p.2 = vPure True ∨ ∃ j s V, j ∈ ps ∧ ss[j]? = some s ∧ s.al = none ∧ s.pv = some V ∧ p.2 = vPure (vals j = V)))
  | [], h => by cases h
  | j :: l, h => by
    rw [factsOf] at h
    have go : p ∈ factsOf (ss.map Sp.toStp) vals l → p ∈ postFacts ss vals l ∨ (p.1 = true ∧ (p.2 = vPure True ∨ ∃ j' s V, j' ∈ j :: l ∧ ss[j']? = some s ∧ s.al = none ∧ s.pv = some V ∧ p.2 = vPure (vals j' = V))) := fun h => by
      rcases factsOf_cases h with h | ⟨h1, h | ⟨j', s, V, h2, h3⟩⟩
      · exact .inl h
      · exact .inr ⟨h1, .inl h⟩
      · exact .inr ⟨h1, .inr ⟨j', s, V, List.mem_cons_of_mem _ h2, h3⟩⟩
    have lift : p ∈ postFacts ss vals l → p ∈ postFacts ss vals (j :: l) := fun h => by
      rw [postFacts]
      cases ss[j]? with
      | none => exact h
      | some s =>
        simp only
        cases s.al with
        | some q => exact h
        | none =>
          simp only
          cases s.pv with
          | some V => exact h
          | none => exact List.mem_cons_of_mem _ h
    rcases List.mem_cons.1 h with rfl | h
    · cases hj : ss[j]? with
      | none =>
        have : getF (ss.map Sp.toStp) j = fun _ => vPure True := by
          have hn : (ss.map Sp.toStp)[j]? = none := by rw [List.getElem?_map, hj]; rfl
          have : ∀ (ts : List Stp) (j : Nat), ts[j]? = none → getF ts j = fun _ => vPure True := by
            intro ts
            induction ts with
            | nil => intro j _; rfl
            | cons t ts ih => intro j h; cases j with
              | zero => simp at h
              | succ j => rw [getF]; exact ih j (by simpa using h)
          exact this _ _ hn
        rw [this]
        exact .inr ⟨rfl, .inl rfl⟩
      | some s =>
        cases hal : s.al with
        | some q =>
          have h' : (ss.map Sp.toStp)[j]? = some s.toStp := by rw [List.getElem?_map, hj]; rfl
          have : getF (ss.map Sp.toStp) j = fun _ => vPure True := by
            rw [getF_get h']
            show (match s.al with | some _ => fun _ => vPure True | none => s.F) = _
            rw [hal]
          rw [this]
          exact .inr ⟨rfl, .inl rfl⟩
        | none =>
          rw [getF_toStp hj hal]
          cases hpv : s.pv with
          | some V =>
            refine .inr ⟨rfl, .inr ⟨j, s, V, List.mem_cons_self, hj, hal, hpv, ?_⟩⟩
            simp [Sp.F, hpv]
          | none =>
            refine .inl ?_
            rw [postFacts, hj]
            simp only [hal, hpv]
            have : s.F = vPost s.post := by unfold Sp.F; rw [hpv]
            rw [this]
            exact List.mem_cons_self
    · rcases go h with h | h
      · exact .inl (lift h)
      · exact .inr h
theorem OblS.obl {l : List Oper} {n : Nat} {b : List Value} {ss : List Sp} {s : Sp} {o : Oper} (h : OblS P l w0 σ φ n b ss s o) : Obl P l w0 σ φ n b (ss.map Sp.toStp) s.toStp o := by
  unfold Obl OblS at *
  show (match s.al with | some (T, z) => _ | none => _)
  cases hal : s.al with
  | some q => rw [hal] at h; exact h
  | none =>
    rw [hal] at h
    simp only at h ⊢
    intro vals ex ψ w st
    show wpList P l.toArray (StepQ w0 (σ ++ ex) (factsOf (ss.map Sp.toStp) vals s.preds ++ (φ ++ ψ)) ⟨n, pends ((ss.map Sp.toStp).map (·.d)) vals 0, b⟩ s.d s.F) [o] _ w
    have heq : ∀ j s' V, ss[j]? = some s' → s'.al = none → s'.pv = some V → j ∈ s.preds → vals j = V := by
      intro j s' V hj hal' hpv hm
      have hmem : (true, getF (ss.map Sp.toStp) j (vals j)) ∈ factsOf (ss.map Sp.toStp) vals s.preds := by
        have : ∀ (l : List Nat), j ∈ l → (true, getF (ss.map Sp.toStp) j (vals j)) ∈ factsOf (ss.map Sp.toStp) vals l := by
          intro l
          induction l with
          | nil => intro h; cases h
          | cons k l ih =>
            intro h
            rw [factsOf]
            rcases List.mem_cons.1 h with rfl | h
            · exact List.mem_cons_self
            · exact List.mem_cons_of_mem _ (ih h)
        exact this _ hm
      have := st.views _ (List.mem_append_left _ hmem)
      rw [getF_toStp hj hal'] at this
      unfold Sp.F at this
      rw [hpv] at this
      exact this
    have hpe : pendsO s.preds vals ss 0 = pends ((ss.map Sp.toStp).map (·.d)) vals 0 := pendsO_eq ss 0 fun j s' V hj hal' hpv hm => by
      rw [Nat.zero_add] at hm ⊢; exact heq j s' V hj hal' hpv hm
    have h1 := h vals ex ψ w (st.weaken fun p hp => by
      rcases List.mem_append.1 hp with hp | hp
      · exact List.mem_append_left _ (postFacts_sub p hp)
      · exact List.mem_append_right _ hp)
    rw [hpe] at h1
    have conv : ∀ a' w', StepQ w0 (σ ++ ex) (postFacts ss vals s.preds ++ (φ ++ ψ)) ⟨n, pends ((ss.map Sp.toStp).map (·.d)) vals 0, b⟩ s.d s.F .normal a' w' → StepQ w0 (σ ++ ex) (factsOf (ss.map Sp.toStp) vals s.preds ++ (φ ++ ψ)) ⟨n, pends ((ss.map Sp.toStp).map (·.d)) vals 0, b⟩ s.d s.F .normal a' w' := by
      rintro a' w' ⟨v, φ'', rfl, hst', hF, hsub⟩
      refine ⟨v, factsOf (ss.map Sp.toStp) vals s.preds ++ φ'', rfl, ⟨hst'.base, hst'.own, hst'.fresh, hst'.dist, fun p hp => ?_⟩, hF, fun p hp => ?_⟩
      · rcases List.mem_append.1 hp with hp | hp
        · rcases factsOf_cases hp with hp | ⟨hp1, hp | ⟨j, s', V, hm, hj, hal', hpv, hp⟩⟩
          · exact hst'.views p (hsub p (List.mem_append_left _ hp))
          · rw [hp]; exact trivial
          · rw [hp]; exact heq j s' V hj hal' hpv hm
        · exact hst'.views p hp
      · rcases List.mem_append.1 hp with hp | hp
        · exact List.mem_append_left _ hp
        · exact List.mem_append_right _ (hsub p (List.mem_append_right _ hp))
    unfold wpList at h1 ⊢
    split at h1
    · rename_i hw
      rw [if_pos hw]
      refine .inl ?_
      rcases h1 with h1 | h1
      · exact Oper.wp_conv conv (fun c a w h => h.elim) (fun h => by obtain ⟨a, w, h⟩ := h; exact h.elim) h1
      · obtain ⟨_, a, w, h⟩ := h1; exact h.elim
    · rename_i hw
      rw [if_neg hw]
      exact conv _ _ h1

theorem JC_drawS (hm : P.follows .mixedOrders = true) {id : Nat} {l : List Oper} (np n : Nat) {b : List Value} (ss : List Sp) (hok : drawOk l np (ss.map fun s => (s.d, s.preds)) = true) (hob : OblsS P l w0 σ φ n b ss ss l)
    (hfin : ∀ vals bs, JL P l.toArray Q w0 (σ ++ madeS bs ss 0) (allPosts vals ss 0 ++ φ) (l.drop np) ⟨n, pendsF vals bs ss 0, b⟩) :
    JC P (.region id l.toArray true) Q w0 σ φ ⟨n, [], b⟩ := by
  have hds : (ss.map Sp.toStp).map (fun s => (s.d, s.preds)) = ss.map fun s => (s.d, s.preds) := by rw [List.map_map]; rfl
  have ok := drawOk_spec hok
  refine JC_draw hm np n (ss.map Sp.toStp) (by rw [hds]; exact hok) ?_ ?_
  · have : ∀ (ts : List Sp) (os : List Oper), OblsS P l w0 σ φ n b ss ts os → Obls P l w0 σ φ n b (ss.map Sp.toStp) (ts.map Sp.toStp) os := by
      intro ts
      induction ts with
      | nil => intro os _; trivial
      | cons t ts ih =>
        intro os h
        cases os with
        | nil => exact h.elim
        | cons o os => exact ⟨OblS.obl h.1, ih os h.2⟩
    exact this ss l hob
  · intro vals bs w st
    have hmem : ∀ (j : Nat) (s : Sp), ss[j]? = some s → (match s.al with | some _ => (true, vPure (vals j = Value.pointer (some ⟨bs j, 0, none⟩))) | none => (true, s.F (vals j)) : Bool × VP) ∈ allFacts vals bs (ss.map Sp.toStp) 0 := by
      have : ∀ (ts : List Sp) (k j : Nat) (s : Sp), ts[j]? = some s → (match s.al with | some _ => (true, vPure (vals (k + j) = Value.pointer (some ⟨bs (k + j), 0, none⟩))) | none => (true, s.F (vals (k + j))) : Bool × VP) ∈ allFacts vals bs (ts.map Sp.toStp) k := by
        intro ts
        induction ts with
        | nil => intro k j s h; simp at h
        | cons t ts ih =>
          intro k j s h
          rw [List.map_cons, allFacts]
          show _ ∈ (match t.al with | some _ => _ | none => _)
          cases j with
          | zero =>
            simp at h
            subst h
            simp only [Nat.add_zero]
            cases t.al with
            | some q => exact List.mem_cons_self
            | none => exact List.mem_cons_self
          | succ j =>
            have := ih (k + 1) j s (by simpa using h)
            rw [show k + 1 + j = k + (j + 1) from by omega] at this
            cases t.al with
            | some q => exact List.mem_cons_of_mem _ this
            | none => exact List.mem_cons_of_mem _ this
      intro j s h
      have := this ss 0 j s h
      simpa only [Nat.zero_add] using this
    have hv : ∀ (j : Nat) (s : Sp) (V : Value), ss[j]? = some s → s.al = none → s.pv = some V → vals j = V := by
      intro j s V hj hal hpv
      have h1 := hmem j s hj
      rw [hal] at h1
      have := st.views _ (List.mem_append_left _ h1)
      simp only [Sp.F, hpv] at this
      exact this
    have ha : ∀ (j : Nat) (s : Sp) q, ss[j]? = some s → s.al = some q → vals j = .pointer (some ⟨bs j, 0, none⟩) := by
      intro j s q hj hal
      have h1 := hmem j s hj
      rw [hal] at h1
      exact st.views _ (List.mem_append_left _ h1)
    have hpf : pendsF vals bs ss 0 = pends ((ss.map Sp.toStp).map (·.d)) vals 0 := pendsF_eq ss 0 (fun j s V hj hal hpv => by rw [Nat.zero_add]; exact hv j s V hj hal hpv) (fun j s q hj hal => by rw [Nat.zero_add]; exact ha j s q hj hal)
    have hpost : ∀ p ∈ allPosts vals ss 0, p.2.holds (Xof w0 (σ ++ madeBy bs (ss.map Sp.toStp) 0) p.1) w := by
      have : ∀ (ts : List Sp) (k : Nat), (∀ (j : Nat) (s : Sp), ts[j]? = some s → ss[k + j]? = some s) → ∀ p ∈ allPosts vals ts k, p.2.holds (Xof w0 (σ ++ madeBy bs (ss.map Sp.toStp) 0) p.1) w := by
        intro ts
        induction ts with
        | nil => intro k _ p h; cases h
        | cons t ts ih =>
          intro k hts p h
          have ih' := ih (k + 1) (fun j s hj => by rw [show k + 1 + j = k + (j + 1) from by omega]; exact hts (j + 1) s (by simpa using hj)) p
          rw [allPosts] at h
          have ht := hts 0 t rfl
          simp only [Nat.add_zero] at ht
          cases hal : t.al with
          | some q => rw [hal] at h; exact ih' h
          | none =>
            rw [hal] at h
            simp only at h
            cases hpv : t.pv with
            | some V => rw [hpv] at h; exact ih' h
            | none =>
              rw [hpv] at h
              rcases List.mem_cons.1 h with rfl | h
              · have h1 := hmem k t ht
                rw [hal] at h1
                have := st.views _ (List.mem_append_left _ h1)
                simp only [Sp.F, hpv] at this
                exact this
              · exact ih' h
      exact this ss 0 (fun j s hj => by rw [Nat.zero_add]; exact hj)
    have := hfin vals bs w
    rw [hpf, madeS_eq] at this
    refine this ⟨st.base, st.own, st.fresh, st.dist, fun p hp => ?_⟩
    rcases List.mem_append.1 hp with hp | hp
    · exact hpost p hp
    · exact st.views p (List.mem_append_right _ hp)

/-! ## Steps of the walk -/
theorem JE_stepV {σx : List Res} {φx φ'' : List (Bool × VP)} {frv : Fr} {d : Nat} {V : Value} (hfr : fr = upd frv d V) (hφ : ∀ p ∈ φx, p ∈ φ'') :
    JE (StepQ w0 σx φx frv d (fun v => vPure (v = V))) .normal w0 σx φ'' fr := JE_step V hfr (fun _ _ => rfl) hφ
theorem JE_stepC {σx : List Res} {φx φ'' : List (Bool × VP)} {frv : Fr} {d : Nat} {Post : Value → List VP → Prop} {v : Value} (φo : List VP) (hfr : fr = upd frv d v) (hP : Post v φo) (hv : ∀ p ∈ φo, (true, p) ∈ φ'') (hφ : ∀ p ∈ φx, p ∈ φ'') :
    JE (StepQ w0 σx φx frv d (vPost Post)) .normal w0 σx φ'' fr := JE_step v hfr (fun _ s => ⟨φo, hP, fun p hp => s.views _ (hv p hp)⟩) hφ
/-- A call's words, opened. -/
theorem JL_usePost {l : List Oper} {v : Value} {Post : Value → List VP → Prop} (h : (true, vPost Post v) ∈ φ) (k : ∀ φo, Post v φo → JL P ops Q w0 σ (φo.map (fun p => (true, p)) ++ φ) l fr) : JL P ops Q w0 σ φ l fr := by
  intro w s
  obtain ⟨φo, hP, hv⟩ := s.views _ h
  refine k φo hP w ⟨s.base, s.own, s.fresh, s.dist, fun p hp => ?_⟩
  rcases List.mem_append.1 hp with hp | hp
  · obtain ⟨q, hq, rfl⟩ := List.mem_map.1 hp
    exact hv q hq
  · exact s.views p hp
/-- A call in a region that draws: its contract serves as it stands. -/
theorem OblS_call {l : List Oper} {n : Nat} {b : List Value} {ss : List Sp} {d : Nat} {preds : List Nat} {Post : Value → List VP → Prop} {ty : TypeId} {pos : String} {aft : Array Edge} {f : FuncId} {x : Operand} {xs : List Operand} {ts : Array TypeId} (vs : (Nat → Value) → List Value) (φin : (Nat → Value) → List VP)
    (hf : ∀ fr, Ev fr x (.func (.func f) #[] #[])) (hc : callable P f = true)
    (h : ∀ (vals : Nat → Value) (ex : List Res) (ψ : List (Bool × VP)) (w : World), St w0 w (σ ++ ex) (postFacts ss vals preds ++ (φ ++ ψ)) → ConF P f (vs vals) (φin vals) Post ∧ EvL ⟨n, pendsO preds vals ss 0, b⟩ xs (vs vals) ∧ Asks w0 (σ ++ ex) (postFacts ss vals preds ++ (φ ++ ψ)) (φin vals)) :
    OblS P l w0 σ φ n b ss (spC d preds Post) ⟨some d, .call { callee := .value x, args := xs.toArray, argTypes := ts }, ty, pos, aft, none⟩ := OblS_C fun vals ex ψ w s => by
  obtain ⟨h1, h2, h3⟩ := h vals ex ψ w s
  refine JL_callF h1 (hf _) hc h2 h3 (fun v φo hP => ?_) w s
  refine JL_nil (JE_stepC φo rfl hP (fun p hp => List.mem_append_left _ (List.mem_map.2 ⟨p, hp, rfl⟩)) (fun p hp => List.mem_append_right _ hp))
theorem JL_normL {l : List Oper} (l' : List Oper) (fr' : Fr) (σ' : List Res) (φ' : List (Bool × VP)) (h0 : l' = l) (h1 : fr' = fr) (h2 : σ' = σ) (h3 : φ' = φ) (h : JL P ops Q w0 σ' φ' l' fr') : JL P ops Q w0 σ φ l fr := by
  subst h0 h1 h2 h3; exact h
end
end Go.Fw
