/- Chapter 28: trees in memory: nodes that point to each other, as data. -/
import Derived.Test.YtjkbamfcoiikmaaGreatDoorPqAE
import Derived.Test.YtjkbamfcoiikmaaGreatDoorFwXY
import Derived.Test.YtjkbamfcoiikmaaGreatDoorFwMN
import Derived.Test.YtjkbamfcoiikmaaGreatDoorProg
namespace Go.Fw.Pq
open Go Go.RowKit Go.Fw
/-- A tree in memory: its node's block, its leaf, whether it is a line, its kids' row. -/
inductive AT where
  | mk (b : Nat) (n : Nat) (q : Bool) (ad : Option Addr) (cap : Nat) (ks : List AT)
instance : Inhabited AT := ⟨.mk 0 0 false none 0 []⟩
theorem AT.ind {p : AT → Prop} (h : ∀ b n q ad cap ks, (∀ k ∈ ks, p k) → p (.mk b n q ad cap ks)) (t : AT) : p t :=
  AT.rec (motive_1 := p) (motive_2 := fun l => ∀ k ∈ l, p k) (fun b n q ad cap ks ih => h b n q ad cap ks ih) (fun _ h => by cases h)
    (fun k ks hk ih x hx => by
      rcases List.mem_cons.1 hx with rfl | hx
      · exact hk
      · exact ih x hx) t
def AT.blk : AT → Nat
  | .mk b _ _ _ _ _ => b
abbrev nptr (b : Nat) : Value := ptrAt (some ⟨b, 0, none⟩) 0
abbrev ptr (t : AT) : Value := nptr t.blk
abbrev ptrs (l : List AT) : List Value := l.map ptr
theorem ptrs_length (l : List AT) : (ptrs l).length = l.length := List.length_map _
theorem ptrs_get {l : List AT} {i : Nat} (h : i < l.length) : (ptrs l)[i]? = some (ptr (l.getD i default)) := by
  rw [List.getElem?_map, List.getD_eq_getElem?_getD, List.getElem?_eq_getElem h]; rfl
theorem at_mem {l : List AT} {i : Nat} (h : i < l.length) : l.getD i default ∈ l := by
  rw [List.getD_eq_getElem?_getD, List.getElem?_eq_getElem h]; exact List.getElem_mem h
theorem ptrs_one (l : List AT) : AllOne (ptrs l) := fun v hv => by
  obtain ⟨x, _, rfl⟩ := List.mem_map.1 hv
  rfl
theorem ptrs_set (m : List AT) (i : Nat) (x : AT) : setAll (ptrs m) i [ptr x] = ptrs (m.set i x) := by
  simp only [setAll, updL_set]
  exact (List.map_set (f := ptr)).symm
theorem ptrs_snoc (l : List AT) (t : AT) : ptrs l ++ [ptr t] = ptrs (l ++ [t]) := (List.map_append (f := ptr) (l₁ := l) (l₂ := [t])).symm
theorem ptrs_app (l m : List AT) : ptrs l ++ ptrs m = ptrs (l ++ m) := List.map_append.symm
mutual
/-- The tree itself. -/
def er : AT → PT
  | .mk _ n _ _ _ [] => .leaf n
  | .mk _ _ q _ _ (k :: ks) => .nd q (er k :: erL ks)
def erL : List AT → List PT
  | [] => []
  | k :: ks => er k :: erL ks
end
theorem erL_map : ∀ ks, erL ks = ks.map er
  | [] => rfl
  | k :: ks => by rw [erL, erL_map ks]; rfl
theorem er_nd {b n : Nat} {q : Bool} {ad : Option Addr} {cap : Nat} {ks : List AT} (h : ks ≠ []) : er (.mk b n q ad cap ks) = .nd q (ks.map er) := by
  match ks, h with
  | k :: ks, _ => rw [er, erL_map]; rfl
theorem er_leaf (b n : Nat) (q : Bool) (ad : Option Addr) (cap : Nat) : er (.mk b n q ad cap []) = .leaf n := rfl
abbrev ncells (n : Nat) (q : Bool) (ad : Option Addr) (len cap : Nat) : List Value := [.int .i64 n, .bool q, .slice ad len cap]
mutual
def AT.hold (X : Nat → Prop) (w : World) : AT → Prop
  | .mk b n q ad cap ks => CellsAt X w (some ⟨b, 0, none⟩) (ncells n q ad ks.length cap) ∧ CellsAt X w ad (ptrs ks) ∧ AT.holdL X w ks
def AT.holdL (X : Nat → Prop) (w : World) : List AT → Prop
  | [] => True
  | k :: ks => AT.hold X w k ∧ AT.holdL X w ks
end
theorem AT.holdL_iff {X : Nat → Prop} {w : World} : ∀ {ks : List AT}, AT.holdL X w ks ↔ ∀ k ∈ ks, AT.hold X w k
  | [] => by simp [AT.holdL]
  | k :: ks => by rw [AT.holdL, AT.holdL_iff]; simp
theorem AT.hold_mono {X X' : Nat → Prop} {w w' : World} (hb : ∀ k, k < w.heap.size → ¬ X k → w'.heap[k]? = w.heap[k]?) (hx : ∀ k, k < w.heap.size → X' k → X k) (t : AT) : AT.hold X w t → AT.hold X' w' t := by
  induction t using AT.ind with
  | h b n q ad cap ks ih =>
    rw [AT.hold, AT.hold]
    rintro ⟨h1, h2, h3⟩
    exact ⟨h1.mono hb hx, h2.mono hb hx, AT.holdL_iff.2 fun k hk => ih k hk (AT.holdL_iff.1 h3 k hk)⟩
def vA (t : AT) : VP := ⟨fun X w => AT.hold X w t, fun _ _ _ _ h _ b c => AT.hold_mono b c t h⟩
def vAs (l : List AT) : VP := ⟨fun X w => ∀ k ∈ l, AT.hold X w k, fun _ _ _ _ h _ b c k hk => AT.hold_mono b c k (h k hk)⟩
/-- A tree in memory with rows that are not too long. -/
inductive Fit : AT → Prop
  | mk (b n : Nat) (q : Bool) (ad : Option Addr) (cap : Nat) (ks : List AT) : ks.length ≤ cap → ks.length ≤ 1000 → (ks ≠ [] → 2 ≤ ks.length) → (q = true → 3 ≤ ks.length) → (∀ k ∈ ks, Fit k) → Fit (.mk b n q ad cap ks)
theorem Fit.kids {b n : Nat} {q : Bool} {ad : Option Addr} {cap : Nat} {ks : List AT} (h : Fit (.mk b n q ad cap ks)) : ∀ k ∈ ks, Fit k := by cases h; assumption
theorem Fit.cap {b n : Nat} {q : Bool} {ad : Option Addr} {cap : Nat} {ks : List AT} (h : Fit (.mk b n q ad cap ks)) : ks.length ≤ cap := by cases h; assumption
theorem Fit.len {b n : Nat} {q : Bool} {ad : Option Addr} {cap : Nat} {ks : List AT} (h : Fit (.mk b n q ad cap ks)) : ks.length ≤ 1000 := by cases h; assumption
theorem Fit.ok {t : AT} (h : Fit t) : Ok (er t) := by
  induction t using AT.ind with
  | h b n q ad cap ks ih =>
    cases h with
    | mk _ _ _ _ _ _ h1 h2 h3 h4 h5 =>
      by_cases e : ks = []
      · subst e; exact .leaf n
      · rw [er_nd e]
        exact .nd _ _ (by rw [List.length_map]; exact h3 e) (fun hq => by rw [List.length_map]; exact h4 hq) fun k hk => by
          obtain ⟨k', hk', rfl⟩ := List.mem_map.1 hk
          exact ih k' hk' (h5 k' hk')
/-- The kids of a state. -/
def byA (S : Nat → Bool) (s : Nat) (l : List AT) : List AT := l.filter fun t => st S (er t) == s
theorem byA_er (S : Nat → Bool) (s : Nat) (l : List AT) : (byA S s l).map er = by_ S s (l.map er) := by
  unfold byA by_; rw [List.filter_map]; rfl
theorem byA_mem {S : Nat → Bool} {s : Nat} {l : List AT} {t : AT} (h : t ∈ byA S s l) : t ∈ l := (List.mem_filter.1 h).1
theorem byA_len (S : Nat → Bool) (s : Nat) (l : List AT) : (byA S s l).length ≤ l.length := List.length_filter_le _ _
theorem takeA_succ {l : List AT} {i : Nat} (h : i < l.length) : l.take (i + 1) = l.take i ++ [l.getD i default] := by
  rw [List.take_add_one, List.getD_eq_getElem?_getD, List.getElem?_eq_getElem h]; rfl
theorem byA_same {S : Nat → Bool} {s i : Nat} {l : List AT} (h : i < l.length) (hs : st S (er (l.getD i default)) = s) : byA S s (l.take (i + 1)) = byA S s (l.take i) ++ [l.getD i default] := by
  unfold byA
  rw [takeA_succ h, List.filter_append]
  congr 1
  rw [List.filter_cons, if_pos (by simpa using hs)]; rfl
theorem byA_other {S : Nat → Bool} {s i : Nat} {l : List AT} (h : i < l.length) (hs : st S (er (l.getD i default)) ≠ s) : byA S s (l.take (i + 1)) = byA S s (l.take i) := by
  unfold byA
  rw [takeA_succ h, List.filter_append, List.filter_cons, if_neg (by simpa using hs), List.filter_nil, List.append_nil]
/-- How far a list is turned: so many places from both ends. -/
def TRV (l : List AT) (i : Nat) (m : List AT) : Prop := ∀ p, p < l.length → m.getD p default = if p < i ∨ l.length ≤ p + i then l.getD (l.length - 1 - p) default else l.getD p default
theorem TRV.zero (l : List AT) : TRV l 0 l := fun p hp => by rw [if_neg (by omega)]
theorem getD_setA (m : List AT) (i j : Nat) (x : AT) (h : i < m.length) : (m.set i x).getD j default = if i = j then x else m.getD j default := by
  rw [List.getD_eq_getElem?_getD, List.getElem?_set]
  split
  · rfl
  · rw [List.getD_eq_getElem?_getD]
theorem TRV.step {l m : List AT} {i : Nat} (h : TRV l i m) (hm : m.length = l.length) (hi : i < l.length - 1 - i) : TRV l (i + 1) ((m.set i (m.getD (l.length - 1 - i) default)).set (l.length - 1 - i) (m.getD i default)) := by
  intro p hp
  rw [getD_setA _ _ _ _ (by rw [List.length_set]; omega), getD_setA _ _ _ _ (by omega), h _ (by omega), h _ (by omega), h p hp]
  by_cases c1 : l.length - 1 - i = p
  · rw [if_pos c1, if_neg (by omega), if_pos (by omega)]; congr 1; omega
  · rw [if_neg c1]
    by_cases c2 : i = p
    · subst c2; rw [if_pos rfl, if_neg (by omega), if_pos (by omega)]
    · rw [if_neg c2]
      by_cases c3 : p < i ∨ l.length ≤ p + i
      · rw [if_pos c3, if_pos (by omega)]
      · rw [if_neg c3, if_neg (by omega)]
theorem TRV.done {l m : List AT} {i : Nat} (h : TRV l i m) (hm : m.length = l.length) (hi : l.length - 1 ≤ 2 * i) : m = l.reverse := by
  apply List.ext_getElem?
  intro p
  by_cases hp : p < l.length
  · have h1 := h p hp
    have e : m.getD p default = l.getD (l.length - 1 - p) default := by
      rw [h1]
      split
      · rfl
      · congr 1; omega
    rw [List.getD_eq_getElem?_getD, List.getD_eq_getElem?_getD, List.getElem?_eq_getElem (by omega), List.getElem?_eq_getElem (by omega)] at e
    rw [List.getElem?_eq_getElem (by omega), List.getElem?_eq_getElem (by simpa using hp), List.getElem_reverse]
    exact congrArg some e
  · rw [List.getElem?_eq_none (by omega), List.getElem?_eq_none (by simpa using hp)]
/-- A pointer to a node, or nothing. -/
def optr : List AT → Value
  | [] => .pointer none
  | t :: _ => ptr t
theorem er_mk {b : Nat} {q : Bool} {ad : Option Addr} {cap : Nat} {ks : List AT} (h : 0 < ks.length) : er (.mk b 0 q ad cap ks) = .nd q (ks.map er) := er_nd (by rintro rfl; simp at h)
theorem grp_er0 {ks : List AT} (h : ks.length = 0) : grp (ks.map er) = [] := by rw [List.length_eq_zero_iff.1 h]; rfl
theorem grp_er1 {ks : List AT} (h : ks.length = 1) : grp (ks.map er) = [er (ks.getD 0 default)] := by
  match ks, h with
  | [t], _ => rfl
theorem grp_er2 {ks : List AT} (h : 2 ≤ ks.length) : grp (ks.map er) = [.nd false (ks.map er)] := by
  match ks, h with
  | _ :: _ :: _, _ => rfl
theorem lne_er {ks : List AT} (h : 3 ≤ ks.length) : lne (ks.map er) = [.nd true (ks.map er)] := by
  unfold lne; rw [if_neg (by rw [List.length_map]; omega)]
theorem lne_er_lt {ks : List AT} (h : ks.length < 3) : lne (ks.map er) = grp (ks.map er) := by
  unfold lne; rw [if_pos (by rw [List.length_map]; omega)]
theorem Fit.nd {b : Nat} {q : Bool} {ad : Option Addr} {cap : Nat} {ks : List AT} (h1 : ks.length ≤ cap) (h2 : ks.length ≤ 1000) (h3 : 2 ≤ ks.length) (h4 : q = true → 3 ≤ ks.length) (h5 : ∀ k ∈ ks, Fit k) : Fit (.mk b 0 q ad cap ks) := .mk _ _ _ _ _ _ h1 h2 (fun _ => h3) h4 h5
/-- The row as a set, out of the map. -/
def mS (R : List (Int × Bool)) (n : Nat) : Bool := getM false ((n : Nat) : Int) R
theorem st_of_len {S : Nat → Bool} {b n : Nat} {q : Bool} {ad : Option Addr} {cap : Nat} {ks : List AT} (h : ((ks.length : Nat) : Int) = 0) : st S (er (.mk b n q ad cap ks)) = if S n then 2 else 0 := by
  have : ks = [] := List.length_eq_zero_iff.1 (by omega)
  subst this; rfl
theorem st_of_kids {S : Nat → Bool} {b n : Nat} {q : Bool} {ad : Option Addr} {cap : Nat} {ks : List AT} (h : ¬ ((ks.length : Nat) : Int) = 0) :
    st S (er (.mk b n q ad cap ks)) = if ∀ j, j < ks.length - 1 → st S (er ((ks.drop 1).getD j default)) = st S (er (ks.getD 0 default)) then st S (er (ks.getD 0 default)) else 1 := by
  match ks, h with
  | k :: ks, _ =>
    rw [er_nd (by simp), st_nd, List.map_cons, List.map_cons, comb]
    have e : (List.map (st S) (List.map er ks)).all (fun x => x == st S (er k)) = decide (∀ j, j < (k :: ks).length - 1 → st S (er (((k :: ks).drop 1).getD j default)) = st S (er ((k :: ks).getD 0 default))) := by
      rw [Bool.eq_iff_iff, decide_eq_true_iff, List.all_eq_true]
      show (∀ x ∈ _, _) ↔ ∀ j, j < ks.length → st S (er (ks.getD j default)) = st S (er k)
      constructor
      · intro h j hj
        have := h (st S (er (ks.getD j default))) (List.mem_map_of_mem (List.mem_map_of_mem (at_mem hj)))
        simpa using this
      · intro h x hx
        obtain ⟨y, hy, rfl⟩ := List.mem_map.1 hx
        obtain ⟨z, hz, rfl⟩ := List.mem_map.1 hy
        obtain ⟨j, hj, rfl⟩ := List.mem_iff_getElem.1 hz
        have := h j hj
        rw [List.getD_eq_getElem?_getD, List.getElem?_eq_getElem hj] at this
        simpa using this
    rw [e]
    by_cases c : ∀ j, j < (k :: ks).length - 1 → st S (er (((k :: ks).drop 1).getD j default)) = st S (er ((k :: ks).getD 0 default))
    · rw [if_pos c, decide_eq_true c]; rfl
    · rw [if_neg c, decide_eq_false c]; rfl
theorem conAs {P : Program} {f : FuncId} {args : List Value} {v0 : VP} {t : AT} {l : List AT} {Post : Value → List VP → Prop} (h : ConF P f args [v0, vA t] Post) (ht : t ∈ l) : ConF P f args [v0, vAs l] Post := fun w hw => h w fun p hp => by
  rcases List.mem_cons.1 hp with rfl | hp
  · exact hw _ List.mem_cons_self
  · rw [List.mem_singleton.1 hp]
    exact hw (vAs l) (List.mem_cons_of_mem _ List.mem_cons_self) t ht
section
variable {P : Program} {Q : Exit → Act → World → Prop} {w0 : Ctx} {σ : List Res} {φ : List (Bool × VP)} {fr : Go.Fw.Fr} {ops : Array Oper} {lo : List Oper} {c : Code}
  {f : Bool} {b n : Nat} {q : Bool} {ad : Option Addr} {cap : Nat} {ks : List AT}
theorem JL_nilCheckE {x : Operand} {a : Addr} {j d : Nat} {ty : TypeId} {pos : String} {aft : Array Edge} (hx : Ev fr x (ptrAt (some a) j)) (k : JL P ops Q w0 σ φ lo (upd fr d (ptrAt (some a) j))) : JL P ops Q w0 σ φ (⟨some d, .nilCheck x, ty, pos, aft, none⟩ :: lo) fr :=
  JL_pure _ (fun w => by simp [execOp, hx.eq, ptrAt]) k
theorem JC_atOpen (h : (f, vA (.mk b n q ad cap ks)) ∈ φ) (k : JC P c Q w0 σ ((f, vCells (some ⟨b, 0, none⟩) (ncells n q ad ks.length cap)) :: (f, vCells ad (ptrs ks)) :: (f, vAs ks) :: φ) fr) : JC P c Q w0 σ φ fr := by
  refine JC_addView (p := vAs ks) (f := f) (fun w s => ?_) ?_
  · have h1 := s.views _ h
    exact AT.holdL_iff.1 h1.2.2
  refine JC_addView (p := vCells ad (ptrs ks)) (f := f) (fun w s => ?_) ?_
  · have h1 := s.views _ (List.mem_cons_of_mem _ h)
    exact h1.2.1
  refine JC_addView (p := vCells (some ⟨b, 0, none⟩) (ncells n q ad ks.length cap)) (f := f) (fun w s => ?_) k
  have h1 := s.views _ (List.mem_cons_of_mem _ (List.mem_cons_of_mem _ h))
  exact h1.1
theorem JC_asGet {l : List AT} (t : AT) (h : (f, vAs l) ∈ φ) (ht : t ∈ l) (k : JC P c Q w0 σ ((f, vA t) :: φ) fr) : JC P c Q w0 σ φ fr :=
  JC_addView (p := vA t) (f := f) (fun _ s => s.views _ h t ht) k
theorem JC_asNil (k : JC P c Q w0 σ ((true, vAs []) :: φ) fr) : JC P c Q w0 σ φ fr := JC_addView (fun _ _ _ hx => by cases hx) k
theorem JL_asGet {l : List AT} (t : AT) (h : (f, vAs l) ∈ φ) (ht : t ∈ l) (k : JL P ops Q w0 σ ((f, vA t) :: φ) lo fr) : JL P ops Q w0 σ φ lo fr :=
  JL_addView (p := vA t) (f := f) (fun _ s => s.views _ h t ht) k
theorem JL_asSub {l m : List AT} (h : (f, vAs l) ∈ φ) (hm : ∀ x ∈ m, x ∈ l) (k : JL P ops Q w0 σ ((f, vAs m) :: φ) lo fr) : JL P ops Q w0 σ φ lo fr :=
  JL_addView (p := vAs m) (f := f) (fun _ s x hx => s.views _ h x (hm x hx)) k
theorem JL_asSnoc {l : List AT} (t : AT) (h : (f, vAs l) ∈ φ) (ht : (f, vA t) ∈ φ) (k : JL P ops Q w0 σ ((f, vAs (l ++ [t])) :: φ) lo fr) : JL P ops Q w0 σ φ lo fr := by
  refine JL_addView (p := vAs (l ++ [t])) (f := f) (fun _ s x hx => ?_) k
  rcases List.mem_append.1 hx with hx | hx
  · exact s.views _ h x hx
  · rw [List.mem_singleton.1 hx]; exact s.views _ ht
theorem JL_asApp {l m : List AT} (h : (f, vAs l) ∈ φ) (hm : (f, vAs m) ∈ φ) (k : JL P ops Q w0 σ ((f, vAs (l ++ m)) :: φ) lo fr) : JL P ops Q w0 σ φ lo fr := by
  refine JL_addView (p := vAs (l ++ m)) (f := f) (fun _ s x hx => ?_) k
  rcases List.mem_append.1 hx with hx | hx
  · exact s.views _ h x hx
  · exact s.views _ hm x hx
theorem JE_giveBox {e : Exit} {b : Nat} {T : TypeId} {cs : List Value} (i : Nat) (hi : Nth σ i (box b T cs)) (k : JE Q e w0 (σ.eraseIdx i) ((true, vCells (some ⟨b, 0, none⟩) cs) :: φ) fr) : JE Q e w0 σ φ fr :=
  JE_conv (fun _ s => s.giveV i hi rfl fun _ h hX => box_cells h hX) k
theorem JE_asNil {e : Exit} (k : JE Q e w0 σ ((true, vAs []) :: φ) fr) : JE Q e w0 σ φ fr := JE_addView (fun _ _ _ hx => by cases hx) k
theorem JE_asSub {e : Exit} {l m : List AT} (h : (f, vAs l) ∈ φ) (hm : ∀ x ∈ m, x ∈ l) (k : JE Q e w0 σ ((f, vAs m) :: φ) fr) : JE Q e w0 σ φ fr :=
  JE_addView (p := vAs m) (f := f) (fun _ s x hx => s.views _ h x (hm x hx)) k
theorem JE_asOne {e : Exit} {t : AT} (h : (f, vA t) ∈ φ) (k : JE Q e w0 σ ((f, vAs [t]) :: φ) fr) : JE Q e w0 σ φ fr :=
  JE_addView (p := vAs [t]) (f := f) (fun _ s x hx => by rw [List.mem_singleton.1 hx]; exact s.views _ h) k
theorem JE_atMake {e : Exit} (h1 : (f, vCells (some ⟨b, 0, none⟩) (ncells n q ad ks.length cap)) ∈ φ) (h2 : (f, vCells ad (ptrs ks)) ∈ φ) (h3 : (f, vAs ks) ∈ φ)
    (k : JE Q e w0 σ ((f, vA (.mk b n q ad cap ks)) :: φ) fr) : JE Q e w0 σ φ fr :=
  JE_addView (p := vA (.mk b n q ad cap ks)) (f := f) (fun _ s => ⟨s.views _ h1, s.views _ h2, AT.holdL_iff.2 (s.views _ h3)⟩) k
theorem nilAL {w : World} (s : St w0 w σ φ) {l : List AT} (h : (f, vCells ad (ptrs l)) ∈ φ) (ha : ad.isNone = true) : l = [] := by
  cases l with
  | nil => rfl
  | cons x l =>
    have hv : CellsAt (Xof w0 σ f) w ad (ptrs (x :: l)) := s.views _ h
    obtain ⟨b, o, e, _⟩ := hv 0 (ptr x) rfl
    rw [e] at ha; cases ha
end
end Go.Fw.Pq

/- Chapter 28: keys of maps, as the program's types have them. -/
namespace Go.Fw.K
open Go Go.RowKit Go.Proofs Go.Fw
theorem keyInt : KeyT Tryz.prog 3 iv := KeyT.int Tryz.underlying3
theorem zvBool : zvOf Tryz.prog 4 = some (bv false) := by kernel_rfl
end Go.Fw.K
