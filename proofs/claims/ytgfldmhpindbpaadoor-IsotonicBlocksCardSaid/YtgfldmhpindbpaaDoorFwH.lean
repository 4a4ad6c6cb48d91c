/- The program logic's rule for a region that draws its order: operations that read, call or allocate in whatever order, then a tail whose order is forced. -/
import Derived.Test.YtgfldmhpindbpaaDoorFwF
namespace Go.Fw
open Go Go.RowKit

/-! ## An invariant over all orders -/
def unl (listed : Array Bool) : Nat := listed.toList.countP (· == false)
theorem mem_ready {md : Region.Mode} {ops : Array Oper} {listed : Array Bool} {i : Nat} (h : i ∈ Region.ready md ops listed) :
    i < ops.size ∧ listed.getD i true = false ∧ ∃ o, ops[i]? = some o ∧ ∀ e ∈ o.after, Region.binds md e = true → listed.getD e.on false = true := by
  unfold Region.ready at h
  rw [List.mem_filter, List.mem_range] at h
  obtain ⟨h1, h2⟩ := h
  simp only [Bool.and_eq_true, Bool.not_eq_true'] at h2
  refine ⟨h1, h2.1, ops[i], by simp [h1], ?_⟩
  have h3 := h2.2
  rw [Array.getElem?_eq_getElem h1] at h3
  simp only [Option.map_some, Option.getD_some, Array.all_eq_true] at h3
  intro e he hb
  obtain ⟨j, hj, rfl⟩ := Array.mem_iff_getElem.1 he
  have := h3 j hj
  simpa [hb] using this
theorem ready_of {md : Region.Mode} {ops : Array Oper} {listed : Array Bool} {i : Nat} {o : Oper} (hi : ops[i]? = some o) (hl : listed.getD i true = false) (h : ∀ e ∈ o.after, Region.binds md e = true → listed.getD e.on false = true) :
    i ∈ Region.ready md ops listed := by
  obtain ⟨hlt, hget⟩ := Array.getElem?_eq_some_iff.1 hi
  unfold Region.ready
  rw [List.mem_filter, List.mem_range]
  refine ⟨hlt, ?_⟩
  simp only [hl, Bool.not_false, Bool.true_and, hi, Option.map_some, Option.getD_some, Array.all_eq_true]
  intro j hj
  cases hb : Region.binds md o.after[j] with
  | false => rfl
  | true => simpa using h _ (Array.getElem_mem hj) hb
theorem unl_set {listed : Array Bool} {i : Nat} (h : listed.getD i true = false) : unl (listed.setIfInBounds i true) + 1 = unl listed := by
  have hlt : i < listed.size := by
    rcases Nat.lt_or_ge i listed.size with h' | h'
    · exact h'
    · simp [Array.getD, Nat.not_lt.2 h'] at h
  have hv : listed.toList[i]'(by simpa using hlt) = false := by simpa [Array.getD, hlt] using h
  unfold unl
  rw [Array.toList_setIfInBounds]
  have hlt' : i < listed.toList.length := by simpa using hlt
  have e1 : listed.toList = listed.toList.take i ++ listed.toList[i] :: listed.toList.drop (i + 1) := by
    rw [List.getElem_cons_drop, List.take_append_drop]
  have e2 : listed.toList.set i true = listed.toList.take i ++ true :: listed.toList.drop (i + 1) := List.set_eq_take_append_cons_drop.trans (by rw [if_pos hlt'])
  rw [e2]
  conv => rhs; rw [e1]
  rw [hv]
  simp [List.countP_append]
  omega
theorem wpAny_inv {P : Program} {md : Region.Mode} {ops : Array Oper} {Q : Exit → Act → World → Prop} (Inv : Array Bool → Act → World → Prop)
    (hstep : ∀ listed a w i, Inv listed a w → i ∈ Region.ready md ops listed → wpOp P ops Q i (fun a' w' => Inv (listed.setIfInBounds i true) a' w') a w)
    (hend : ∀ listed a w, Inv listed a w → Region.ready md ops listed = [] → Q .normal a w) :
    ∀ (fuel : Nat) (listed : Array Bool) (a : Act) (w : World), listed.size = ops.size → unl listed ≤ fuel → Inv listed a w → wpAny P md ops Q fuel listed a w := by
  intro fuel
  induction fuel with
  | zero =>
    intro listed a w hs hu hI
    have hr : Region.ready md ops listed = [] := by
      cases hr : Region.ready md ops listed with
      | nil => rfl
      | cons i l =>
        have hm := mem_ready (md := md) (ops := ops) (listed := listed) (i := i) (by rw [hr]; exact List.mem_cons_self)
        have := unl_set hm.2.1
        omega
    exact ⟨hr, hend listed a w hI hr⟩
  | succ fuel ih =>
    intro listed a w hs hu hI
    refine ⟨fun hr => hend listed a w hI hr, fun i hi => ?_⟩
    have hm := mem_ready hi
    have hun := unl_set hm.2.1
    exact wpOp_mono (fun a' w' hI' => ih _ a' w' (by simpa using hs) (by omega) hI') (hstep listed a w i hI hi)

/-! ## What is checked of a region, by the kernel -/
def directs (l : List Oper) (i : Nat) : List Nat :=
  match l[i]? with
  | some o => (o.after.toList.filter (Region.binds .any)).map (·.on)
  | none => []
def reach (l : List Oper) : Nat → Nat → List Nat
  | 0, i => directs l i
  | f + 1, i => directs l i ++ (directs l i).flatMap (reach l f)
structure Stp where
  d : Nat
  preds : List Nat
  F : Value → VP
  al : Option (TypeId × List Value)
def isAlloc (o : Oper) : Bool := match o.op with | .alloc _ => true | _ => false
def stepOk (l : List Oper) (i d : Nat) (preds : List Nat) : Bool :=
  match l[i]? with
  | some o => o.dst == some d && (o.guard.isNone || !isAlloc o) && preds.all fun j => (directs l i).contains j
  | none => false
def drawOk (l : List Oper) (n : Nat) (ds : List (Nat × List Nat)) : Bool :=
  ds.length == n && n ≤ l.length &&
  ((List.range l.length).all fun i => (directs l i).all fun j => j < i) &&
  ((List.range n).all fun i => match ds[i]? with | some (d, ps) => stepOk l i d ps | none => false) &&
  ((ds.map (·.1)).Nodup : Bool) &&
  ((List.range l.length).all fun t => t < n || (List.range t).all fun i => (reach l t t).contains i)

/-! ## Small things on frames -/
def pends (ds : List Nat) (vals : Nat → Value) (k : Nat) : List (Nat × Value) :=
  match ds with
  | [] => []
  | d :: ds => (d, vals k) :: pends ds vals (k + 1)
theorem lkP_pends : ∀ (ds : List Nat) (vals : Nat → Value) (k : Nat) (b : List Value) (t : Nat),
    lkP (pends ds vals k) b t = match ds.idxOf? t with | some j => vals (k + j) | none => lookL b t
  | [], _, _, _, _ => rfl
  | d :: ds, vals, k, b, t => by
    rw [pends, lkP]
    by_cases h : d = t
    · subst h; simp [List.idxOf?_cons]
    · have hb : Nat.beq d t = false := by
        cases hb : Nat.beq d t with
        | false => rfl
        | true => exact absurd (Nat.eq_of_beq_eq_true hb) h
      rw [hb]
      simp only [cond_false]
      rw [lkP_pends ds vals (k + 1) b t, List.idxOf?_cons]
      simp only [beq_eq_false_iff_ne.2 h, Bool.false_eq_true, if_false]
      cases ds.idxOf? t with
      | none => rfl
      | some j => simp only [Option.map_some]; congr 1; omega
theorem act_pends_start (n : Nat) (b : List Value) (ds : List Nat) : act ⟨n, pends ds (fun i => lookL b (ds.getD i 0)) 0, b⟩ = act ⟨n, [], b⟩ := by
  unfold act
  congr 2
  apply List.map_congr_left
  intro t _
  show lkP (pends ds _ 0) b t = lookL b t
  rw [lkP_pends]
  cases h : ds.idxOf? t with
  | none => rfl
  | some j =>
    have hj : ds[j]? = some t := by
      rw [List.idxOf?, List.findIdx?_eq_some_iff_getElem] at h
      obtain ⟨hlt, h1, _⟩ := h
      rw [List.getElem?_eq_getElem hlt]
      simpa using h1
    simp [List.getD_eq_getElem?_getD, hj]
def setV (vals : Nat → Value) (i : Nat) (v : Value) : Nat → Value := fun j => if j = i then v else vals j
theorem act_pends_put (n : Nat) (b : List Value) (ds : List Nat) (hnd : ds.Nodup) (vals : Nat → Value) (i d : Nat) (hi : ds[i]? = some d) (v : Value) :
    act (upd ⟨n, pends ds vals 0, b⟩ d v) = act ⟨n, pends ds (setV vals i v) 0, b⟩ := by
  unfold act upd
  congr 2
  apply List.map_congr_left
  intro t _
  show lkP ((d, v) :: pends ds vals 0) b t = lkP (pends ds (setV vals i v) 0) b t
  rw [lkP, lkP_pends, lkP_pends]
  have hilt : i < ds.length := (List.getElem?_eq_some_iff.1 hi).1
  have hget : ds[i] = d := (List.getElem?_eq_some_iff.1 hi).2
  by_cases h : d = t
  · subst h
    have hx : ds.idxOf? d = some i := by
      rw [List.idxOf?, List.findIdx?_eq_some_iff_getElem]
      refine ⟨hilt, by simp [hget], fun j hj => ?_⟩
      have hne : ds[j] ≠ d := by
        intro e
        have := (List.pairwise_iff_getElem.1 hnd) j i (by omega) hilt hj
        exact this (by rw [e, hget])
      simpa using hne
    rw [hx]
    simp [setV]
  · have hb : Nat.beq d t = false := by
      cases hb : Nat.beq d t with
      | false => rfl
      | true => exact absurd (Nat.eq_of_beq_eq_true hb) h
    rw [hb]
    simp only [cond_false]
    cases hx : ds.idxOf? t with
    | none => rfl
    | some j =>
      have hj : ds[j]? = some t := by
        rw [List.idxOf?, List.findIdx?_eq_some_iff_getElem] at hx
        obtain ⟨hlt, h1, _⟩ := hx
        rw [List.getElem?_eq_getElem hlt]
        simpa using h1
      have hji : j ≠ i := by
        rintro rfl
        rw [hi] at hj
        exact h (by simpa using hj)
      simp [setV, hji]

theorem St.perm {w0 : Ctx} {w : World} {σ σ' : List Res} {φ : List (Bool × VP)} (h : St w0 w σ φ) (hp : σ'.Perm σ) : St w0 w σ' φ where
  base := h.base
  own r hr := h.own r (hp.mem_iff.1 hr)
  fresh r hr := h.fresh r (hp.mem_iff.1 hr)
  dist := (hp.symm.pairwise_iff (by intro x y hxy k hk hk'; exact hxy k hk' hk)).1 h.dist
  views p hpp := p.2.mono _ _ w w (h.views p hpp) (Nat.le_refl _) (fun _ _ _ => rfl) (by
    intro k _ hX
    rcases hX with ⟨s, hs', hsk⟩ | hX
    · exact .inl ⟨s, hp.mem_iff.1 hs', hsk⟩
    · exact .inr hX)

/-- A contract's result as a fact. -/
def vPost (Post : Value → List VP → Prop) (v : Value) : VP where
  holds X w := ∃ φo, Post v φo ∧ ∀ p ∈ φo, p.holds X w
  mono X X' w w' h a b c := h.elim fun φo h => ⟨φo, h.1, fun p hp => p.mono X X' w w' (h.2 p hp) a b c⟩

/-! ## The rule -/
section
variable {P : Program} {Q : Exit → Act → World → Prop} {w0 : Ctx} {σ : List Res} {φ : List (Bool × VP)} {fr : Fr} {ops : Array Oper} {rest : List Oper}
/-- What one operation of the prefix must do: give a value of which its fact holds, and keep all else. -/
def StepQ (w0 : Ctx) (σx : List Res) (φx : List (Bool × VP)) (frv : Fr) (d : Nat) (F : Value → VP) : Exit → Act → World → Prop
  | .normal, a, w => ∃ v φ'', a = act (upd frv d v) ∧ St w0 w σx φ'' ∧ (F v).holds (Xof w0 σx true) w ∧ ∀ p ∈ φx, p ∈ φ''
  | _, _, _ => False
theorem JE_step {σx : List Res} {φx φ'' : List (Bool × VP)} {frv : Fr} {d : Nat} {F : Value → VP} (v : Value) (hfr : fr = upd frv d v) (hF : ∀ w, St w0 w σx φ'' → (F v).holds (Xof w0 σx true) w) (hφ : ∀ p ∈ φx, p ∈ φ'') :
    JE (StepQ w0 σx φx frv d F) .normal w0 σx φ'' fr := fun w s => ⟨v, φ'', by rw [hfr], s, hF w s, hφ⟩
def getF (ss : List Stp) (j : Nat) : Value → VP :=
  match ss with
  | [] => fun _ => vPure True
  | s :: l => match j with
    | 0 => match s.al with
      | some _ => fun _ => vPure True
      | none => s.F
    | j + 1 => getF l j
def factsOf (ss : List Stp) (vals : Nat → Value) : List Nat → List (Bool × VP)
  | [] => []
  | j :: l => (true, getF ss j (vals j)) :: factsOf ss vals l
/-- The obligation of operation i. -/
def Obl (P : Program) (l : List Oper) (w0 : Ctx) (σ : List Res) (φ : List (Bool × VP)) (n : Nat) (b : List Value) (ss : List Stp) (s : Stp) (o : Oper) : Prop :=
  match s.al with
  | some (T, z) => o.op = .alloc T ∧ zeroOf P T = some z
  | none => ∀ (vals : Nat → Value) (ex : List Res) (ψ : List (Bool × VP)),
      JL P l.toArray (StepQ w0 (σ ++ ex) (factsOf ss vals s.preds ++ (φ ++ ψ)) ⟨n, pends (ss.map (·.d)) vals 0, b⟩ s.d s.F) w0 (σ ++ ex) (factsOf ss vals s.preds ++ (φ ++ ψ)) [o] ⟨n, pends (ss.map (·.d)) vals 0, b⟩
def Obls (P : Program) (l : List Oper) (w0 : Ctx) (σ : List Res) (φ : List (Bool × VP)) (n : Nat) (b : List Value) (ss : List Stp) : List Stp → List Oper → Prop
  | [], _ => True
  | _ :: _, [] => False
  | s :: ts, o :: os => Obl P l w0 σ φ n b ss s o ∧ Obls P l w0 σ φ n b ss ts os
/-- The blocks that the prefix has made, and the facts of its operations. -/
def madeBy (bs : Nat → Nat) : List Stp → Nat → List Res
  | [], _ => []
  | s :: l, k => match s.al with
    | some (T, z) => box (bs k) T z :: madeBy bs l (k + 1)
    | none => madeBy bs l (k + 1)
def allFacts (vals : Nat → Value) (bs : Nat → Nat) : List Stp → Nat → List (Bool × VP)
  | [], _ => []
  | s :: l, k => match s.al with
    | some _ => (true, vPure (vals k = .pointer (some ⟨bs k, 0, none⟩))) :: allFacts vals bs l (k + 1)
    | none => (true, s.F (vals k)) :: allFacts vals bs l (k + 1)

/-! ### What the checks give -/
theorem directs_spec {l : List Oper} {i : Nat} {o : Oper} (h : l[i]? = some o) {e : Edge} (he : e ∈ o.after) (hb : Region.binds .any e = true) : e.on ∈ directs l i := by
  unfold directs
  rw [h]
  exact List.mem_map.2 ⟨e, List.mem_filter.2 ⟨Array.mem_toList_iff.2 he, hb⟩, rfl⟩
theorem directs_inv {l : List Oper} {i j : Nat} (h : j ∈ directs l i) : ∃ o e, l[i]? = some o ∧ e ∈ o.after ∧ Region.binds .any e = true ∧ e.on = j := by
  unfold directs at h
  split at h
  · rename_i o ho
    obtain ⟨e, he, rfl⟩ := List.mem_map.1 h
    obtain ⟨h1, h2⟩ := List.mem_filter.1 he
    exact ⟨o, e, ho, Array.mem_toList_iff.1 h1, h2, rfl⟩
  · cases h
structure DrawOk (l : List Oper) (np : Nat) (ds : List (Nat × List Nat)) : Prop where
  len : ds.length = np
  le : np ≤ l.length
  early : ∀ i, i < l.length → ∀ j ∈ directs l i, j < i
  step : ∀ i d ps, ds[i]? = some (d, ps) → ∃ o, l[i]? = some o ∧ o.dst = some d ∧ (∀ T, o.op = .alloc T → o.guard = none) ∧ ∀ j ∈ ps, j ∈ directs l i
  nodup : (ds.map (·.1)).Nodup
  tail : ∀ t, np ≤ t → t < l.length → ∀ i, i < t → i ∈ reach l t t
theorem drawOk_spec {l : List Oper} {np : Nat} {ds : List (Nat × List Nat)} (h : drawOk l np ds = true) : DrawOk l np ds := by
  unfold drawOk at h
  simp only [Bool.and_eq_true, decide_eq_true_eq, beq_iff_eq, List.all_eq_true, List.mem_range, Bool.or_eq_true] at h
  obtain ⟨⟨⟨⟨⟨h1, h2⟩, h3⟩, h4⟩, h5⟩, h6⟩ := h
  refine ⟨h1, h2, h3, ?_, h5, ?_⟩
  · intro i d ps hi
    have hlt : i < np := by rw [← h1]; exact (List.getElem?_eq_some_iff.1 hi).1
    have := h4 i hlt
    rw [hi] at this
    unfold stepOk at this
    simp only at this
    split at this
    · rename_i o ho
      simp only [Bool.and_eq_true, beq_iff_eq, List.all_eq_true] at this
      refine ⟨o, ho, this.1.1, fun T hT => ?_, fun j hj => ?_⟩
      · have h := this.1.2
        simpa [isAlloc, hT] using h
      have := this.2 j hj
      simpa using this
    · cases this
  · intro t ht htl i hi
    rcases h6 t htl with h | h
    · omega
    · have := h i hi
      simpa using this
/-- What is listed is closed downward. -/
def Down (l : List Oper) (listed : Array Bool) : Prop := ∀ i, listed.getD i false = true → ∀ j ∈ directs l i, listed.getD j false = true
theorem reach_listed {l : List Oper} {listed : Array Bool} (hd : Down l listed) : ∀ (f t : Nat), (∀ j ∈ directs l t, listed.getD j false = true) → ∀ j ∈ reach l f t, listed.getD j false = true
  | 0, t, h, j, hj => h j hj
  | f + 1, t, h, j, hj => by
    rw [reach] at hj
    rcases List.mem_append.1 hj with hj | hj
    · exact h j hj
    · obtain ⟨k, hk, hj⟩ := List.mem_flatMap.1 hj
      exact reach_listed hd f k (hd k (h k hk)) j hj
theorem getD_set_same (listed : Array Bool) (i : Nat) (h : i < listed.size) (d : Bool) : (listed.setIfInBounds i true).getD i d = true := by simp [Array.getD, h]
theorem getD_set_other (listed : Array Bool) (i j : Nat) (h : i ≠ j) (d : Bool) : (listed.setIfInBounds i true).getD j d = listed.getD j d := by
  rw [Array.getD_eq_getD_getElem?, Array.getD_eq_getD_getElem?, Array.getElem?_setIfInBounds_ne h]
theorem Oper.wp_conv {o : Oper} {a : Act} {w : World} {K K' : Act → World → Prop} {Q Q' : Exit → Act → World → Prop} (hk : ∀ a w, K a w → K' a w) (hq : ∀ c a w, Q (.panic c) a w → Q' (.panic c) a w) (ho : LetsOut Q → LetsOut Q')
    (h : o.wp P a w K Q) : o.wp P a w K' Q' := by
  unfold Oper.wp at *
  generalize (execOp a.eval o).run P w = r at *
  cases r with
  | ok n w' =>
    cases n <;> simp only [Oper.upon] at h ⊢ <;>
      first
        | exact hk _ _ h
        | exact Calls.mono h (fun e w'' he => by cases e <;> first | exact hk _ _ he | exact hq _ _ _ he | exact ho he)
        | exact Rows.mono h (fun _ _ he => hk _ _ he)
  | halt x w' => cases x <;> simp only [Oper.upon] at h ⊢ <;> exact hq _ _ _ h

/-- The made blocks among what is listed. -/
def exOf (listed : Array Bool) (bs : Nat → Nat) : List Stp → Nat → List Res
  | [], _ => []
  | s :: l, k => match s.al with
    | some (T, z) => if listed.getD k false then box (bs k) T z :: exOf listed bs l (k + 1) else exOf listed bs l (k + 1)
    | none => exOf listed bs l (k + 1)
def setN (bs : Nat → Nat) (i x : Nat) : Nat → Nat := fun j => if j = i then x else bs j
theorem exOf_congr {listed listed' : Array Bool} {bs bs' : Nat → Nat} : ∀ (ss : List Stp) (k : Nat), (∀ j s, ss[j]? = some s → s.al ≠ none → listed.getD (k + j) false = listed'.getD (k + j) false ∧ (listed.getD (k + j) false = true → bs (k + j) = bs' (k + j))) → exOf listed bs ss k = exOf listed' bs' ss k
  | [], _, _ => rfl
  | s :: ss, k, h => by
    have ih := exOf_congr ss (k + 1) (listed := listed) (listed' := listed') (bs := bs) (bs' := bs') (fun j s' hj hne => by
      have := h (j + 1) s' (by simpa using hj) hne
      rwa [show k + (j + 1) = k + 1 + j from by omega] at this)
    rw [exOf, exOf, ih]
    cases hal : s.al with
    | none => rfl
    | some p =>
      have := h 0 s rfl (by rw [hal]; simp)
      simp only [Nat.add_zero] at this
      simp only
      rw [← this.1]
      cases hb : listed.getD k false with
      | false => rfl
      | true => simp only [if_true]; rw [this.2 hb]
theorem exOf_all {listed : Array Bool} {bs : Nat → Nat} : ∀ (ss : List Stp) (k : Nat), (∀ j, j < ss.length → listed.getD (k + j) false = true) → exOf listed bs ss k = madeBy bs ss k
  | [], _, _ => rfl
  | s :: ss, k, h => by
    have ih := exOf_all ss (k + 1) (listed := listed) (bs := bs) (fun j hj => by
      have := h (j + 1) (by simpa using hj)
      rwa [show k + (j + 1) = k + 1 + j from by omega] at this)
    rw [exOf, madeBy, ih]
    cases hal : s.al with
    | none => rfl
    | some p =>
      have := h 0 (by simp)
      simp only [Nat.add_zero] at this
      simp [this]
theorem exOf_new {listed : Array Bool} {bs : Nat → Nat} {T : TypeId} {z : List Value} {x : Nat} : ∀ (ss : List Stp) (k i : Nat) (s : Stp), ss[i]? = some s → s.al = some (T, z) → k + i < listed.size → listed.getD (k + i) false = false →
    (exOf (listed.setIfInBounds (k + i) true) (setN bs (k + i) x) ss k).Perm (exOf listed bs ss k ++ [box x T z])
  | [], _, _, _, h, _, _, _ => by simp at h
  | s :: ss, k, 0, s', h, hal, hlt, hf => by
    simp at h
    subst h
    have hc : exOf (listed.setIfInBounds (k + 0) true) (setN bs (k + 0) x) ss (k + 1) = exOf listed bs ss (k + 1) := exOf_congr ss (k + 1) fun j _ _ _ => by
      rw [getD_set_other _ _ _ (by omega)]
      exact ⟨rfl, fun _ => by simp [setN]; omega⟩
    rw [exOf, exOf, hal]
    simp only [Nat.add_zero] at hc hf hlt ⊢
    rw [getD_set_same _ _ hlt, hf, hc]
    simp only [if_true, Bool.false_eq_true, if_false]
    rw [show setN bs k x k = x from by simp [setN]]
    exact (List.perm_append_singleton _ _).symm
  | s :: ss, k, i + 1, s', h, hal, hlt, hf => by
    have ih := exOf_new (listed := listed) (bs := bs) (x := x) ss (k + 1) i s' (by simpa using h) hal (by omega) (by rw [show k + 1 + i = k + (i + 1) from by omega]; exact hf)
    rw [show k + 1 + i = k + (i + 1) from by omega] at ih
    rw [exOf, exOf]
    cases hal' : s.al with
    | none => exact ih
    | some p =>
      simp only
      rw [getD_set_other _ _ _ (by omega), show setN bs (k + (i + 1)) x k = bs k from by simp [setN]]
      split
      · exact List.Perm.cons _ ih
      · exact ih
/-- The facts of what is listed, as views. -/
def listedFacts (listed : Array Bool) (vals : Nat → Value) : List Stp → Nat → List (Bool × VP)
  | [], _ => []
  | s :: l, k => match s.al with
    | some _ => listedFacts listed vals l (k + 1)
    | none => if listed.getD k false then (true, s.F (vals k)) :: listedFacts listed vals l (k + 1) else listedFacts listed vals l (k + 1)
theorem mem_listedFacts {listed : Array Bool} {vals : Nat → Value} {p : Bool × VP} : ∀ (ss : List Stp) (k : Nat), p ∈ listedFacts listed vals ss k → ∃ j s, ss[j]? = some s ∧ s.al = none ∧ listed.getD (k + j) false = true ∧ p = (true, s.F (vals (k + j)))
  | [], _, h => by cases h
  | s :: ss, k, h => by
    rw [listedFacts] at h
    cases hal : s.al with
    | some q =>
      rw [hal] at h
      obtain ⟨j, s', h1, h2, h3, h4⟩ := mem_listedFacts ss (k + 1) h
      exact ⟨j + 1, s', by simpa using h1, h2, by rw [show k + (j + 1) = k + 1 + j from by omega]; exact h3, by rw [show k + (j + 1) = k + 1 + j from by omega]; exact h4⟩
    | none =>
      rw [hal] at h
      simp only at h
      have go : p ∈ listedFacts listed vals ss (k + 1) → ∃ j s', (s :: ss)[j]? = some s' ∧ s'.al = none ∧ listed.getD (k + j) false = true ∧ p = (true, s'.F (vals (k + j))) := fun h => by
        obtain ⟨j, s', h1, h2, h3, h4⟩ := mem_listedFacts ss (k + 1) h
        exact ⟨j + 1, s', by simpa using h1, h2, by rw [show k + (j + 1) = k + 1 + j from by omega]; exact h3, by rw [show k + (j + 1) = k + 1 + j from by omega]; exact h4⟩
      split at h
      · rename_i hb
        rcases List.mem_cons.1 h with rfl | h
        · exact ⟨0, s, rfl, hal, hb, rfl⟩
        · exact go h
      · exact go h
theorem listedFacts_mem {listed : Array Bool} {vals : Nat → Value} {s : Stp} : ∀ (ss : List Stp) (k j : Nat), ss[j]? = some s → s.al = none → listed.getD (k + j) false = true → (true, s.F (vals (k + j))) ∈ listedFacts listed vals ss k
  | [], _, _, h, _, _ => by simp at h
  | s' :: ss, k, 0, h, hal, hb => by
    simp at h
    subst h
    rw [listedFacts, hal]
    simp only [Nat.add_zero] at hb ⊢
    rw [if_pos hb]
    exact List.mem_cons_self
  | s' :: ss, k, j + 1, h, hal, hb => by
    have ih := listedFacts_mem (listed := listed) (vals := vals) (s := s) ss (k + 1) j (by simpa using h) hal (by rw [show k + 1 + j = k + (j + 1) from by omega]; exact hb)
    rw [show k + 1 + j = k + (j + 1) from by omega] at ih
    rw [listedFacts]
    cases s'.al with
    | some q => exact ih
    | none =>
      simp only
      split
      · exact List.mem_cons_of_mem _ ih
      · exact ih
theorem getF_get : ∀ {ss : List Stp} {j : Nat} {s : Stp}, ss[j]? = some s → getF ss j = match s.al with | some _ => fun _ => vPure True | none => s.F
  | [], _, _, h => by simp at h
  | s' :: ss, 0, s, h => by simp at h; subst h; rfl
  | s' :: ss, j + 1, s, h => by rw [getF]; exact getF_get (by simpa using h)
theorem mem_factsOf {ss : List Stp} {vals : Nat → Value} {p : Bool × VP} : ∀ {ps : List Nat}, p ∈ factsOf ss vals ps → ∃ j ∈ ps, p = (true, getF ss j (vals j))
  | [], h => by cases h
  | j :: l, h => by
    rw [factsOf] at h
    rcases List.mem_cons.1 h with rfl | h
    · exact ⟨j, List.mem_cons_self, rfl⟩
    · obtain ⟨k, hk, hp⟩ := mem_factsOf h
      exact ⟨k, List.mem_cons_of_mem _ hk, hp⟩
theorem mem_allFacts {vals : Nat → Value} {bs : Nat → Nat} {p : Bool × VP} : ∀ (ss : List Stp) (k : Nat), p ∈ allFacts vals bs ss k → ∃ j s, ss[j]? = some s ∧ ((s.al = none ∧ p = (true, s.F (vals (k + j)))) ∨ (s.al ≠ none ∧ p = (true, vPure (vals (k + j) = .pointer (some ⟨bs (k + j), 0, none⟩)))))
  | [], _, h => by cases h
  | s :: ss, k, h => by
    have go : p ∈ allFacts vals bs ss (k + 1) → ∃ j s', (s :: ss)[j]? = some s' ∧ ((s'.al = none ∧ p = (true, s'.F (vals (k + j)))) ∨ (s'.al ≠ none ∧ p = (true, vPure (vals (k + j) = .pointer (some ⟨bs (k + j), 0, none⟩))))) := fun h => by
      obtain ⟨j, s', h1, h2⟩ := mem_allFacts ss (k + 1) h
      rw [show k + 1 + j = k + (j + 1) from by omega] at h2
      exact ⟨j + 1, s', by simpa using h1, h2⟩
    rw [allFacts] at h
    cases hal : s.al with
    | some q =>
      rw [hal] at h
      rcases List.mem_cons.1 h with rfl | h
      · exact ⟨0, s, rfl, .inr ⟨by rw [hal]; simp, rfl⟩⟩
      · exact go h
    | none =>
      rw [hal] at h
      rcases List.mem_cons.1 h with rfl | h
      · exact ⟨0, s, rfl, .inl ⟨hal, rfl⟩⟩
      · exact go h
theorem Obls.get {l : List Oper} {n : Nat} {b : List Value} {ss : List Stp} : ∀ {ts : List Stp} {os : List Oper} (_ : Obls P l w0 σ φ n b ss ts os) (i : Nat) (s : Stp) (o : Oper), ts[i]? = some s → os[i]? = some o → Obl P l w0 σ φ n b ss s o
  | [], _, _, _, _, _, h, _ => by simp at h
  | _ :: _, [], h, _, _, _, _, _ => h.elim
  | t :: ts, o' :: os, h, 0, s, o, h1, h2 => by simp at h1 h2; subst h1 h2; exact h.1
  | t :: ts, o' :: os, h, i + 1, s, o, h1, h2 => Obls.get h.2 i s o (by simpa using h1) (by simpa using h2)

/-- The state while the prefix runs. -/
structure Pre (w0 : Ctx) (σ : List Res) (φ : List (Bool × VP)) (n : Nat) (b : List Value) (ss : List Stp) (listed : Array Bool) (vals : Nat → Value) (bs : Nat → Nat) (a : Act) (w : World) : Prop where
  fr : a = act ⟨n, pends (ss.map (·.d)) vals 0, b⟩
  st : St w0 w (σ ++ exOf listed bs ss 0) φ
  made : ∀ i s, ss[i]? = some s → s.al ≠ none → listed.getD i false = true → vals i = .pointer (some ⟨bs i, 0, none⟩)
  fact : ∀ i s, ss[i]? = some s → s.al = none → listed.getD i false = true → (s.F (vals i)).holds (Xof w0 (σ ++ exOf listed bs ss 0) true) w

theorem wpList_one {l : List Oper} {o : Oper} {a : Act} {w : World} {Qs : Exit → Act → World → Prop} (hno : ∀ c a w, ¬ Qs (.panic c) a w) (hout : ¬ LetsOut Qs) (h : wpList P l.toArray Qs [o] a w) {K : Act → World → Prop} {Q : Exit → Act → World → Prop} (hk : ∀ a w, Qs .normal a w → K a w) :
    if Region.wanted o (yielded l.toArray a.tmps) then o.wp P a w K Q ∨ (o.asks P a w ∧ LetsOut Q) else K (a.put o.dst undef) w := by
  unfold wpList at h
  split at h
  · rename_i hw
    rw [if_pos hw]
    rcases h with h | h
    · exact .inl (Oper.wp_conv hk (fun c a w h => (hno c a w h).elim) (fun h => (hout h).elim) h)
    · exact (hout h.2).elim
  · rename_i hw
    rw [if_neg hw]
    exact hk _ _ h
theorem alloc_wp {o : Oper} {T : TypeId} {z : List Value} {d : Nat} {w : World} {K : Act → World → Prop} {Q : Exit → Act → World → Prop} (ho : o.op = .alloc T) (hd : o.dst = some d) (hz : zeroOf P T = some z)
    (hk : K (act (upd fr d (.pointer (some ⟨w.heap.size, 0, none⟩)))) (w.alloc (.cells z.toArray T (0, 0)))) : o.wp P (act fr) w K Q := by
  unfold zeroOf at hz
  cases hi : P.info? T with
  | none => simp [hi] at hz
  | some i =>
    cases hzv : i.zero with
    | none => simp [hi, hzv] at hz
    | some zv =>
      simp [hi, hzv] at hz
      have hrun : (execOp (ev fr) o).run P w = .ok (.value (.pointer (some ⟨w.heap.size, 0, none⟩))) (w.alloc (.cells z.toArray T (0, 0))) := by
        simp [execOp, ho, Instr.alloc, newVar, newRow, zeroValue, typeInfo, hi, hzv, ← hz]
      unfold Oper.wp
      rw [act_eval_fun, hrun]
      show K ((act fr).put o.dst _) _
      rw [hd, act_put]
      exact hk

theorem Pre.step {l : List Oper} {np n : Nat} {b : List Value} {ss : List Stp} {listed : Array Bool} {vals : Nat → Value} {bs : Nat → Nat} {a : Act} {w : World} (hok : DrawOk l np (ss.map fun s => (s.d, s.preds)))
    (hob : Obls P l w0 σ φ n b ss ss l) (hp : Pre w0 σ φ n b ss listed vals bs a w) {i : Nat} {s : Stp} {o : Oper} (hs : ss[i]? = some s) (ho : l[i]? = some o) (hsz : i < listed.size) (hun : listed.getD i true = false) (hpr : ∀ j ∈ directs l i, listed.getD j false = true) :
    ∀ {Q : Exit → Act → World → Prop}, if Region.wanted o (yielded l.toArray a.tmps) then o.wp P a w (fun a' w' => ∃ vals' bs', Pre w0 σ φ n b ss (listed.setIfInBounds i true) vals' bs' a' w') Q ∨ (o.asks P a w ∧ LetsOut Q)
      else (∃ vals' bs', Pre w0 σ φ n b ss (listed.setIfInBounds i true) vals' bs' (a.put o.dst undef) w) := by
  obtain ⟨o', ho', hdst, hgd, hps⟩ := hok.step i s.d s.preds (by rw [List.getElem?_map, hs]; rfl)
  obtain rfl : o = o' := by rw [ho] at ho'; simpa using ho'
  have hob' := hob.get i s o hs ho
  have hunf : listed.getD i false = false := by simpa [Array.getD, hsz] using hun
  have hdi : (ss.map (·.d))[i]? = some s.d := by rw [List.getElem?_map, hs]; rfl
  have hnd : (ss.map (·.d)).Nodup := by have := hok.nodup; rwa [List.map_map] at this
  intro Q
  have hfr := hp.fr
  subst hfr
  unfold Obl at hob'
  cases hal : s.al with
  | some p =>
    obtain ⟨T, z⟩ := p
    rw [hal] at hob'
    rw [if_pos (by simp [Region.wanted, hgd T hob'.1])]
    refine .inl (alloc_wp hob'.1 hdst hob'.2 ⟨setV vals i (.pointer (some ⟨w.heap.size, 0, none⟩)), setN bs i w.heap.size, ?_⟩)
    have hst := (hp.st.addBox T z)
    have hperm : (σ ++ exOf (listed.setIfInBounds i true) (setN bs i w.heap.size) ss 0).Perm ((σ ++ exOf listed bs ss 0) ++ [box w.heap.size T z]) := by
      rw [List.append_assoc]
      refine List.Perm.append_left _ ?_
      have := exOf_new (listed := listed) (bs := bs) (x := w.heap.size) ss 0 i s hs hal (by simpa using hsz) (by simpa using hunf)
      simpa using this
    refine ⟨act_pends_put n b _ hnd vals i s.d hdi _, hst.perm hperm, ?_, ?_⟩
    · intro j s' hj hne hl
      by_cases h : j = i
      · subst h; simp [setV, setN]
      · rw [getD_set_other _ _ _ (fun e => h e.symm)] at hl
        have := hp.made j s' hj hne hl
        simp [setV, setN, h, this]
    · intro j s' hj hn hl
      have h : j ≠ i := by rintro rfl; rw [hs] at hj; simp at hj; subst hj; rw [hal] at hn; cases hn
      rw [getD_set_other _ _ _ (fun e => h e.symm)] at hl
      have hf := hp.fact j s' hj hn hl
      rw [show setV vals i _ j = vals j from by simp [setV, h]]
      refine VP.mono _ _ _ w _ hf (by simp) (fun k hk _ => Below.heap_alloc _ _ _ hk) ?_
      intro k hk hX
      rcases hX with ⟨r, hr, hrk⟩ | hX
      · rcases List.mem_append.1 (hperm.mem_iff.1 hr) with hr | hr
        · exact .inl ⟨r, hr, hrk⟩
        · obtain rfl := List.mem_singleton.1 hr
          simp [box] at hrk
          omega
      · exact .inr hX
  | none =>
    rw [hal] at hob'
    have hst : St w0 w (σ ++ exOf listed bs ss 0) (factsOf ss vals s.preds ++ (φ ++ listedFacts listed vals ss 0)) := by
      refine ⟨hp.st.base, hp.st.own, hp.st.fresh, hp.st.dist, fun p hpm => ?_⟩
      rcases List.mem_append.1 hpm with hpm | hpm
      · obtain ⟨j, hj, rfl⟩ := mem_factsOf hpm
        have hjl := hpr j (hps j hj)
        have hji : j < i := hok.early i (List.getElem?_eq_some_iff.1 ho).1 j (hps j hj)
        have hjs : j < ss.length := by have := (List.getElem?_eq_some_iff.1 hs).1; omega
        have hg : ss[j]? = some ss[j] := List.getElem?_eq_getElem hjs
        rw [getF_get hg]
        cases hal' : (ss[j]).al with
        | none => exact hp.fact j _ hg hal' hjl
        | some q => exact trivial
      · rcases List.mem_append.1 hpm with hpm | hpm
        · exact hp.st.views p hpm
        · obtain ⟨j, s', h1, h2, h3, rfl⟩ := mem_listedFacts ss 0 hpm
          simp only [Nat.zero_add] at h3 ⊢
          exact hp.fact j s' h1 h2 h3
    refine wpList_one (fun c a w h => h) (fun h => by obtain ⟨a, w, h⟩ := h; exact h) (hob' vals (exOf listed bs ss 0) (listedFacts listed vals ss 0) w hst) ?_
    rintro a' w' ⟨v, φ'', rfl, hst', hF, hsub⟩
    refine ⟨setV vals i v, bs, ?_⟩
    have hex : exOf (listed.setIfInBounds i true) bs ss 0 = exOf listed bs ss 0 := exOf_congr ss 0 fun j s' hj hne => by
      have h : j ≠ i := by rintro rfl; rw [hs] at hj; simp at hj; subst hj; exact hne hal
      rw [Nat.zero_add, getD_set_other _ _ _ (fun e => h e.symm)]
      exact ⟨rfl, fun _ => rfl⟩
    refine ⟨act_pends_put n b _ hnd vals i s.d hdi v, ?_, ?_, ?_⟩
    · rw [hex]
      exact hst'.weaken fun p hp' => hsub p (List.mem_append_right _ (List.mem_append_left _ hp'))
    · intro j s' hj hne hl
      have h : j ≠ i := by rintro rfl; rw [hs] at hj; simp at hj; subst hj; exact hne hal
      rw [getD_set_other _ _ _ (fun e => h e.symm)] at hl
      rw [show setV vals i v j = vals j from by simp [setV, h]]
      exact hp.made j s' hj hne hl
    · intro j s' hj hn hl
      rw [hex]
      by_cases h : j = i
      · subst h
        rw [hs] at hj
        simp at hj
        subst hj
        simpa [setV] using hF
      · rw [getD_set_other _ _ _ (fun e => h e.symm)] at hl
        rw [show setV vals i v j = vals j from by simp [setV, h]]
        have hm := listedFacts_mem (listed := listed) (vals := vals) ss 0 j hj hn (by simpa using hl)
        simp only [Nat.zero_add] at hm
        exact hst'.views _ (hsub _ (List.mem_append_right _ (List.mem_append_right _ hm)))

/-- Behind the prefix: the tail, in its order. -/
structure Tail (P : Program) (l : List Oper) (Q : Exit → Act → World → Prop) (k : Nat) (listed : Array Bool) (a : Act) (w : World) : Prop where
  below : ∀ i, i < k → listed.getD i false = true
  above : ∀ i, k ≤ i → listed.getD i false = false
  go : wpList P l.toArray Q (l.drop k) a w

theorem JC_draw (hm : P.follows .mixedOrders = true) {id : Nat} {l : List Oper} (np n : Nat) {b : List Value} (ss : List Stp) (hok : drawOk l np (ss.map fun s => (s.d, s.preds)) = true) (hob : Obls P l w0 σ φ n b ss ss l)
    (hfin : ∀ vals bs, JL P l.toArray Q w0 (σ ++ madeBy bs ss 0) (allFacts vals bs ss 0 ++ φ) (l.drop np) ⟨n, pends (ss.map (·.d)) vals 0, b⟩) :
    JC P (.region id l.toArray true) Q w0 σ φ ⟨n, [], b⟩ := by
  intro w s
  have ok := drawOk_spec hok
  have hssl : ss.length = np := by have := ok.len; simpa using this
  refine wp_region_any hm ?_
  let Inv : Array Bool → Act → World → Prop := fun listed a w =>
    listed.size = l.length ∧ Down l listed ∧
      (((∀ i, np ≤ i → listed.getD i false = false) ∧ ∃ vals bs, Pre w0 σ φ n b ss listed vals bs a w) ∨ ∃ k, np ≤ k ∧ Tail P l Q k listed a w)
  -- when all of the prefix is listed, the tail begins
  have toTail : ∀ listed a w, listed.size = l.length → (∀ i, np ≤ i → listed.getD i false = false) → (∀ i, i < np → listed.getD i false = true) → (∃ vals bs, Pre w0 σ φ n b ss listed vals bs a w) → Tail P l Q np listed a w := by
    rintro listed a w hs h1 h2 ⟨vals, bs, hp⟩
    refine ⟨h2, h1, ?_⟩
    have hfr := hp.fr
    subst hfr
    have hex : exOf listed bs ss 0 = madeBy bs ss 0 := exOf_all ss 0 fun j hj => by rw [Nat.zero_add]; exact h2 j (by omega)
    have hst := hp.st
    have hfact := hp.fact
    rw [hex] at hst hfact
    refine hfin vals bs w ⟨hst.base, hst.own, hst.fresh, hst.dist, fun p hpm => ?_⟩
    rcases List.mem_append.1 hpm with hpm | hpm
    · obtain ⟨j, s', h3, h4⟩ := mem_allFacts ss 0 hpm
      rw [Nat.zero_add] at h4
      have hj : j < np := by have := (List.getElem?_eq_some_iff.1 h3).1; omega
      rcases h4 with ⟨hn, rfl⟩ | ⟨hn, rfl⟩
      · exact hfact j s' h3 hn (h2 j hj)
      · exact hp.made j s' h3 hn (h2 j hj)
    · exact hst.views p hpm
  -- an index that is ready: all that comes before it in the order is listed
  have tailPre : ∀ (listed : Array Bool), Down l listed → ∀ i, i ∈ Region.ready .any l.toArray listed → (∀ j ∈ directs l i, listed.getD j false = true) ∧ (np ≤ i → ∀ j, j < i → listed.getD j false = true) := by
    intro listed hd i hi
    obtain ⟨h1, h2, o, ho, h3⟩ := mem_ready hi
    have hdir : ∀ j ∈ directs l i, listed.getD j false = true := by
      intro j hj
      obtain ⟨o', e, ho', he, hb, rfl⟩ := directs_inv hj
      have : o = o' := by
        have h4 : l[i]? = some o := by simpa using ho
        rw [h4] at ho'; simpa using ho'
      subst this
      exact h3 e he hb
    exact ⟨hdir, fun hnp j hj => reach_listed hd i i hdir j (ok.tail i hnp (by omega) j hj)⟩
  have down_set : ∀ (listed : Array Bool) (i : Nat), listed.size = l.length → i < l.length → Down l listed → (∀ j ∈ directs l i, listed.getD j false = true) → Down l (listed.setIfInBounds i true) := by
    intro listed i hs hi hd hdir j hj k hk
    by_cases h : i = k
    · subst h; exact getD_set_same _ _ (by omega) _
    · rw [getD_set_other _ _ _ h]
      by_cases h' : i = j
      · subst h'; exact hdir k hk
      · rw [getD_set_other _ _ _ h'] at hj
        exact hd j hj k hk
  refine wpAny_inv Inv ?_ ?_ _ _ _ _ (by simp) (by simp [unl, List.countP_replicate]) ?_
  · rintro listed a w i ⟨hs, hd, hI⟩ hi
    obtain ⟨h1, h2, o, ho, h3⟩ := mem_ready hi
    have ho' : l[i]? = some o := by simpa using ho
    have hil : i < l.length := by simpa using h1
    obtain ⟨hdir, htl⟩ := tailPre listed hd i hi
    have hds := down_set listed i hs hil hd hdir
    have hI' : ((∀ i, np ≤ i → listed.getD i false = false) ∧ (∃ vals bs, Pre w0 σ φ n b ss listed vals bs a w) ∧ i < np) ∨ ∃ k, np ≤ k ∧ Tail P l Q k listed a w := by
      rcases hI with ⟨hA, hP⟩ | hT
      · rcases Nat.lt_or_ge i np with hlt | hge
        · exact .inl ⟨hA, hP, hlt⟩
        · exact .inr ⟨np, Nat.le_refl _, toTail listed a w hs hA (fun j hj => htl hge j (by omega)) hP⟩
      · exact .inr hT
    rcases hI' with ⟨hA, ⟨vals, bs, hP⟩, hlt⟩ | ⟨k, hk, hT⟩
    · have hss : ss[i]? = some (ss[i]'(by omega)) := List.getElem?_eq_getElem (by omega)
      have hstep := Pre.step ok hob hP hss ho' (by omega) h2 hdir (Q := Q)
      have hmono : ∀ a' w', (∃ vals' bs', Pre w0 σ φ n b ss (listed.setIfInBounds i true) vals' bs' a' w') → Inv (listed.setIfInBounds i true) a' w' := fun a' w' hex =>
        ⟨by simpa using hs, hds, .inl ⟨fun j hj => by rw [getD_set_other _ _ _ (by omega)]; exact hA j hj, hex⟩⟩
      unfold wpOp
      rw [ho]
      simp only
      split at hstep
      · rename_i hw
        rw [if_pos hw]
        exact hstep.imp (Oper.wp_mono hmono) (fun h => h)
      · rename_i hw
        rw [if_neg hw]
        exact hmono _ _ hstep
    · -- the tail: only k is ready
      have hki : k = i := by
        have h4 : listed.getD i false = false := by simpa [Array.getD, h1, hs, hil] using h2
        have h5 : k ≤ i := by
          rcases Nat.lt_or_ge i k with h | h
          · have := hT.below i h; rw [this] at h4; cases h4
          · exact h
        rcases Nat.lt_or_ge k i with h | h
        · have := htl (by omega) k h
          rw [hT.above k (Nat.le_refl _)] at this
          cases this
        · omega
      subst hki
      have hgo := hT.go
      rw [List.drop_eq_getElem_cons hil] at hgo
      have hget : l[k] = o := by rw [List.getElem?_eq_getElem hil] at ho'; simpa using ho'
      rw [hget] at hgo
      have hnext : ∀ a' w', wpList P l.toArray Q (l.drop (k + 1)) a' w' → Inv (listed.setIfInBounds k true) a' w' := by
        intro a' w' h
        refine ⟨by simpa using hs, hds, .inr ⟨k + 1, by omega, ⟨?_, ?_, h⟩⟩⟩
        · intro j hj
          by_cases e : k = j
          · subst e; exact getD_set_same _ _ (by omega) _
          · rw [getD_set_other _ _ _ e]; exact hT.below j (by omega)
        · intro j hj
          rw [getD_set_other _ _ _ (by omega)]
          exact hT.above j (by omega)
      unfold wpOp
      rw [ho]
      simp only
      unfold wpList at hgo
      split at hgo
      · rename_i hw
        rw [if_pos hw]
        exact hgo.imp (Oper.wp_mono hnext) (fun h => h)
      · rename_i hw
        rw [if_neg hw]
        exact hnext _ _ hgo
  · rintro listed a w ⟨hs, hd, hI⟩ hr
    -- nothing is ready: all is listed
    have hall : ∀ i, i < l.length → listed.getD i false = true := by
      intro i
      induction i using Nat.strongRecOn with
      | _ i ih =>
        intro hi
        cases hl : listed.getD i false with
        | true => rfl
        | false =>
          exfalso
          have : i ∈ Region.ready .any l.toArray listed := by
            refine ready_of (o := l[i]) (by simp [hi]) (by simpa [Array.getD, hs, hi] using hl) ?_
            intro e he hb
            have hdir := directs_spec (l := l) (i := i) (List.getElem?_eq_getElem hi) he hb
            have := ok.early i hi _ hdir
            exact ih e.on this (by omega)
          rw [hr] at this
          cases this
    have hT : ∃ k, np ≤ k ∧ Tail P l Q k listed a w := by
      rcases hI with ⟨hA, hP⟩ | hT
      · exact ⟨np, Nat.le_refl _, toTail listed a w hs hA (fun j hj => hall j (by have := ok.le; omega)) hP⟩
      · exact hT
    obtain ⟨k, hk, hT⟩ := hT
    have hkl : l.length ≤ k := by
      rcases Nat.lt_or_ge k l.length with h | h
      · have := hall k h
        rw [hT.above k (Nat.le_refl _)] at this
        cases this
      · exact h
    have hgo := hT.go
    rw [List.drop_eq_nil_of_le hkl] at hgo
    exact hgo
  · have hrep' : ∀ i, (Array.replicate l.toArray.size false).getD i false = false := fun i => by simp [Array.getD]
    refine ⟨by simp, fun i hi => (by rw [hrep' i] at hi; cases hi), .inl ⟨fun i _ => hrep' i, fun i => lookL b ((ss.map (·.d)).getD i 0), fun _ => 0, ?_⟩⟩
    refine ⟨(act_pends_start n b _).symm, ?_, fun i _ _ _ h => (by rw [hrep' i] at h; cases h), fun i _ _ _ h => (by rw [hrep' i] at h; cases h)⟩
    have hex : exOf (Array.replicate l.toArray.size false) (fun _ => 0) ss 0 = [] := by
      have : ∀ (ts : List Stp) (k : Nat), exOf (Array.replicate l.toArray.size false) (fun _ => 0) ts k = [] := by
        intro ts
        induction ts with
        | nil => intro k; rfl
        | cons t ts ih =>
          intro k
          rw [exOf, ih]
          cases t.al with
          | none => rfl
          | some q => simp only; rw [hrep' k]; rfl
      exact this ss 0
    rw [hex, List.append_nil]
    exact s.ext ((Below.refl _ _).drew)
end
end Go.Fw

/-! The rule for a region that draws its order, in the form in which walks use it: known values stand in the frame, results of calls come with their contract's words. -/
namespace Go.Fw
open Go Go.RowKit

structure Sp where
  d : Nat
  preds : List Nat
  pv : Option Value
  post : Value → List VP → Prop
  al : Option (TypeId × List Value)
/-- The value V, whatever the order. -/
def spV (d : Nat) (preds : List Nat) (V : Value) : Sp := ⟨d, preds, some V, fun _ _ => True, none⟩
/-- A call's result. -/
def spC (d : Nat) (preds : List Nat) (Post : Value → List VP → Prop) : Sp := ⟨d, preds, none, Post, none⟩
/-- A new variable. -/
def spA (d : Nat) (T : TypeId) (z : List Value) : Sp := ⟨d, [], none, fun _ _ => True, some (T, z)⟩
def Sp.F (s : Sp) : Value → VP :=
  match s.pv with
  | some V => fun v => vPure (v = V)
  | none => vPost s.post
def Sp.toStp (s : Sp) : Stp := ⟨s.d, s.preds, s.F, s.al⟩
def pendsO (ps : List Nat) (vals : Nat → Value) : List Sp → Nat → List (Nat × Value)
  | [], _ => []
  | s :: l, k => (s.d, match s.al with
    | some _ => vals k
    | none => match s.pv with
      | some V => bif ps.contains k then V else vals k
      | none => vals k) :: pendsO ps vals l (k + 1)
def pendsF (vals : Nat → Value) (bs : Nat → Nat) : List Sp → Nat → List (Nat × Value)
  | [], _ => []
  | s :: l, k => (s.d, match s.al with
    | some _ => .pointer (some ⟨bs k, 0, none⟩)
    | none => match s.pv with
      | some V => V
      | none => vals k) :: pendsF vals bs l (k + 1)
/-- Of the predecessors those that are calls: their facts. -/
def postFacts (ss : List Sp) (vals : Nat → Value) : List Nat → List (Bool × VP)
  | [] => []
  | j :: l => match ss[j]? with
    | some s => match s.al with
      | some _ => postFacts ss vals l
      | none => match s.pv with
        | some _ => postFacts ss vals l
        | none => (true, vPost s.post (vals j)) :: postFacts ss vals l
    | none => postFacts ss vals l
def allPosts (vals : Nat → Value) : List Sp → Nat → List (Bool × VP)
  | [], _ => []
  | s :: l, k => match s.al with
    | some _ => allPosts vals l (k + 1)
    | none => match s.pv with
      | some _ => allPosts vals l (k + 1)
      | none => (true, vPost s.post (vals k)) :: allPosts vals l (k + 1)
def madeS (bs : Nat → Nat) : List Sp → Nat → List Res
  | [], _ => []
  | s :: l, k => match s.al with
    | some (T, z) => box (bs k) T z :: madeS bs l (k + 1)
    | none => madeS bs l (k + 1)

section
variable {P : Program} {Q : Exit → Act → World → Prop} {w0 : Ctx} {σ : List Res} {φ : List (Bool × VP)} {fr : Fr} {ops : Array Oper} {rest : List Oper}
def OblS (P : Program) (l : List Oper) (w0 : Ctx) (σ : List Res) (φ : List (Bool × VP)) (n : Nat) (b : List Value) (ss : List Sp) (s : Sp) (o : Oper) : Prop :=
  match s.al with
  | some (T, z) => o.op = .alloc T ∧ zeroOf P T = some z
  | none => ∀ (vals : Nat → Value) (ex : List Res) (ψ : List (Bool × VP)),
      JL P l.toArray (StepQ w0 (σ ++ ex) (postFacts ss vals s.preds ++ (φ ++ ψ)) ⟨n, pendsO s.preds vals ss 0, b⟩ s.d s.F) w0 (σ ++ ex) (postFacts ss vals s.preds ++ (φ ++ ψ)) [o] ⟨n, pendsO s.preds vals ss 0, b⟩
def OblsS (P : Program) (l : List Oper) (w0 : Ctx) (σ : List Res) (φ : List (Bool × VP)) (n : Nat) (b : List Value) (ss : List Sp) : List Sp → List Oper → Prop
  | [], _ => True
  | _ :: _, [] => False
  | s :: ts, o :: os => OblS P l w0 σ φ n b ss s o ∧ OblsS P l w0 σ φ n b ss ts os
theorem OblS_al {l : List Oper} {n : Nat} {b : List Value} {ss : List Sp} {d : Nat} {T : TypeId} {z : List Value} {o : Oper} (h1 : o.op = .alloc T) (h2 : zeroOf P T = some z) : OblS P l w0 σ φ n b ss (spA d T z) o := ⟨h1, h2⟩
theorem OblS_V {l : List Oper} {n : Nat} {b : List Value} {ss : List Sp} {d : Nat} {preds : List Nat} {V : Value} {o : Oper}
    (h : ∀ (vals : Nat → Value) (ex : List Res) (ψ : List (Bool × VP)), JL P l.toArray (StepQ w0 (σ ++ ex) (postFacts ss vals preds ++ (φ ++ ψ)) ⟨n, pendsO preds vals ss 0, b⟩ d (fun v => vPure (v = V))) w0 (σ ++ ex) (postFacts ss vals preds ++ (φ ++ ψ)) [o] ⟨n, pendsO preds vals ss 0, b⟩) :
    OblS P l w0 σ φ n b ss (spV d preds V) o := h
theorem OblS_C {l : List Oper} {n : Nat} {b : List Value} {ss : List Sp} {d : Nat} {preds : List Nat} {Post : Value → List VP → Prop} {o : Oper}
    (h : ∀ (vals : Nat → Value) (ex : List Res) (ψ : List (Bool × VP)), JL P l.toArray (StepQ w0 (σ ++ ex) (postFacts ss vals preds ++ (φ ++ ψ)) ⟨n, pendsO preds vals ss 0, b⟩ d (vPost Post)) w0 (σ ++ ex) (postFacts ss vals preds ++ (φ ++ ψ)) [o] ⟨n, pendsO preds vals ss 0, b⟩) :
    OblS P l w0 σ φ n b ss (spC d preds Post) o := h

theorem getF_toStp {ss : List Sp} {j : Nat} {s : Sp} (h : ss[j]? = some s) (hal : s.al = none) : getF (ss.map Sp.toStp) j = s.F := by
  have h' : (ss.map Sp.toStp)[j]? = some s.toStp := by rw [List.getElem?_map, h]; rfl
  rw [getF_get h']
  show (match s.al with | some _ => fun _ => vPure True | none => s.F) = s.F
  rw [hal]
/-- Where the facts of the predecessors hold, the frame is the plain one. -/
theorem pendsO_eq {vals : Nat → Value} {ps : List Nat} : ∀ (ss : List Sp) (k : Nat), (∀ j s V, ss[j]? = some s → s.al = none → s.pv = some V → k + j ∈ ps → vals (k + j) = V) → pendsO ps vals ss k = pends ((ss.map Sp.toStp).map (·.d)) vals k
  | [], _, _ => rfl
  | s :: ss, k, h => by
    have ih := pendsO_eq (vals := vals) (ps := ps) ss (k + 1) (fun j s' V hj hal hpv hm => by
      have := h (j + 1) s' V (by simpa using hj) hal hpv (by rwa [show k + (j + 1) = k + 1 + j from by omega])
      rwa [show k + (j + 1) = k + 1 + j from by omega] at this)
    rw [pendsO, ih]
    show _ = (s.d, vals k) :: _
    congr 1
    cases hal : s.al with
    | some q => rfl
    | none =>
      cases hpv : s.pv with
      | none => rfl
      | some V =>
        cases hb : ps.contains k with
        | false => rfl
        | true =>
          have := h 0 s V rfl hal hpv (by simpa using hb)
          simp only [Nat.add_zero] at this
          simp [this]
theorem pendsF_eq {vals : Nat → Value} {bs : Nat → Nat} : ∀ (ss : List Sp) (k : Nat), (∀ j s V, ss[j]? = some s → s.al = none → s.pv = some V → vals (k + j) = V) → (∀ j s q, ss[j]? = some s → s.al = some q → vals (k + j) = .pointer (some ⟨bs (k + j), 0, none⟩)) → pendsF vals bs ss k = pends ((ss.map Sp.toStp).map (·.d)) vals k
  | [], _, _, _ => rfl
  | s :: ss, k, h, h' => by
    have ih := pendsF_eq (vals := vals) (bs := bs) ss (k + 1) (fun j s' V hj hal hpv => by
      have := h (j + 1) s' V (by simpa using hj) hal hpv
      rwa [show k + (j + 1) = k + 1 + j from by omega] at this) (fun j s' q hj hal => by
      have := h' (j + 1) s' q (by simpa using hj) hal
      rwa [show k + (j + 1) = k + 1 + j from by omega] at this)
    rw [pendsF, ih]
    show _ = (s.d, vals k) :: _
    congr 1
    cases hal : s.al with
    | some q =>
      have := h' 0 s q rfl hal
      simp only [Nat.add_zero] at this
      simp [this]
    | none =>
      cases hpv : s.pv with
      | none => rfl
      | some V =>
        have := h 0 s V rfl hal hpv
        simp only [Nat.add_zero] at this
        simp [this]
theorem madeS_eq {bs : Nat → Nat} : ∀ (ss : List Sp) (k : Nat), madeS bs ss k = madeBy bs (ss.map Sp.toStp) k
  | [], _ => rfl
  | s :: ss, k => by
    rw [madeS, madeS_eq ss (k + 1)]
    show _ = (match s.al with | some (T, z) => box (bs k) T z :: madeBy bs (ss.map Sp.toStp) (k + 1) | none => madeBy bs (ss.map Sp.toStp) (k + 1))
    rfl
theorem postFacts_sub {ss : List Sp} {vals : Nat → Value} : ∀ {ps : List Nat}, ∀ p ∈ postFacts ss vals ps, p ∈ factsOf (ss.map Sp.toStp) vals ps
  | [], p, h => by cases h
  | j :: l, p, h => by
    rw [factsOf]
    rw [postFacts] at h
    cases hj : ss[j]? with
    | none => rw [hj] at h; exact List.mem_cons_of_mem _ (postFacts_sub p h)
    | some s =>
      rw [hj] at h
      simp only at h
      cases hal : s.al with
      | some q => rw [hal] at h; exact List.mem_cons_of_mem _ (postFacts_sub p h)
      | none =>
        rw [hal] at h
        simp only at h
        cases hpv : s.pv with
        | some V => rw [hpv] at h; exact List.mem_cons_of_mem _ (postFacts_sub p h)
        | none =>
          rw [hpv] at h
          rcases List.mem_cons.1 h with rfl | h
          · have hF : getF (ss.map Sp.toStp) j = vPost s.post := by
              rw [getF_toStp hj hal]; unfold Sp.F; rw [hpv]
            rw [hF]
            exact List.mem_cons_self
          · exact List.mem_cons_of_mem _ (postFacts_sub p h)
/-- Every fact of a predecessor: a known value, a call's words, or nothing. -/
theorem factsOf_cases {ss : List Sp} {vals : Nat → Value} {p : Bool × VP} : ∀ {ps : List Nat}, p ∈ factsOf (ss.map Sp.toStp) vals ps → p ∈ postFacts ss vals ps ∨ (p.1 = true ∧ (p.2 = vPure True ∨ ∃ j s V, j ∈ ps ∧ ss[j]? = some s ∧ s.al = none ∧ s.pv = some V ∧ p.2 = vPure (vals j = V)))
  | [], h => by cases h
  | j :: l, h => by
    rw [factsOf] at h
    have go : p ∈ factsOf (ss.map Sp.toStp) vals l → p ∈ postFacts ss vals l ∨ (p.1 = true ∧ (p.2 = vPure True ∨ ∃ j' s V, j' ∈ j :: l ∧ ss[j']? = some s ∧ s.al = none ∧ s.pv = some V ∧ p.2 = vPure (vals j' = V))) := fun h => by
      rcases factsOf_cases h with h | ⟨h1, h | ⟨j', s, V, h2, h3⟩⟩
      · exact .inl h
      · exact .inr ⟨h1, .inl h⟩
      · exact .inr ⟨h1, .inr ⟨j', s, V, List.mem_cons_of_mem _ h2, h3⟩⟩
    have lift : p ∈ postFacts ss vals l → p ∈ postFacts ss vals (j :: l) := fun h => by
      rw [postFacts]
      cases ss[j]? with
      | none => exact h
      | some s =>
        simp only
        cases s.al with
        | some q => exact h
        | none =>
          simp only
          cases s.pv with
          | some V => exact h
          | none => exact List.mem_cons_of_mem _ h
    rcases List.mem_cons.1 h with rfl | h
    · cases hj : ss[j]? with
      | none =>
        have : getF (ss.map Sp.toStp) j = fun _ => vPure True := by
          have hn : (ss.map Sp.toStp)[j]? = none := by rw [List.getElem?_map, hj]; rfl
          have : ∀ (ts : List Stp) (j : Nat), ts[j]? = none → getF ts j = fun _ => vPure True := by
            intro ts
            induction ts with
            | nil => intro j _; rfl
            | cons t ts ih => intro j h; cases j with
              | zero => simp at h
              | succ j => rw [getF]; exact ih j (by simpa using h)
          exact this _ _ hn
        rw [this]
        exact .inr ⟨rfl, .inl rfl⟩
      | some s =>
        cases hal : s.al with
        | some q =>
          have h' : (ss.map Sp.toStp)[j]? = some s.toStp := by rw [List.getElem?_map, hj]; rfl
          have : getF (ss.map Sp.toStp) j = fun _ => vPure True := by
            rw [getF_get h']
            show (match s.al with | some _ => fun _ => vPure True | none => s.F) = _
            rw [hal]
          rw [this]
          exact .inr ⟨rfl, .inl rfl⟩
        | none =>
          rw [getF_toStp hj hal]
          cases hpv : s.pv with
          | some V =>
            refine .inr ⟨rfl, .inr ⟨j, s, V, List.mem_cons_self, hj, hal, hpv, ?_⟩⟩
            simp [Sp.F, hpv]
          | none =>
            refine .inl ?_
            rw [postFacts, hj]
            simp only [hal, hpv]
            have : s.F = vPost s.post := by unfold Sp.F; rw [hpv]
            rw [this]
            exact List.mem_cons_self
    · rcases go h with h | h
      · exact .inl (lift h)
      · exact .inr h
theorem OblS.obl {l : List Oper} {n : Nat} {b : List Value} {ss : List Sp} {s : Sp} {o : Oper} (h : OblS P l w0 σ φ n b ss s o) : Obl P l w0 σ φ n b (ss.map Sp.toStp) s.toStp o := by
  unfold Obl OblS at *
  show (match s.al with | some (T, z) => _ | none => _)
  cases hal : s.al with
  | some q => rw [hal] at h; exact h
  | none =>
    rw [hal] at h
    simp only at h ⊢
    intro vals ex ψ w st
    show wpList P l.toArray (StepQ w0 (σ ++ ex) (factsOf (ss.map Sp.toStp) vals s.preds ++ (φ ++ ψ)) ⟨n, pends ((ss.map Sp.toStp).map (·.d)) vals 0, b⟩ s.d s.F) [o] _ w
    have heq : ∀ j s' V, ss[j]? = some s' → s'.al = none → s'.pv = some V → j ∈ s.preds → vals j = V := by
      intro j s' V hj hal' hpv hm
      have hmem : (true, getF (ss.map Sp.toStp) j (vals j)) ∈ factsOf (ss.map Sp.toStp) vals s.preds := by
        have : ∀ (l : List Nat), j ∈ l → (true, getF (ss.map Sp.toStp) j (vals j)) ∈ factsOf (ss.map Sp.toStp) vals l := by
          intro l
          induction l with
          | nil => intro h; cases h
          | cons k l ih =>
            intro h
            rw [factsOf]
            rcases List.mem_cons.1 h with rfl | h
            · exact List.mem_cons_self
            · exact List.mem_cons_of_mem _ (ih h)
        exact this _ hm
      have := st.views _ (List.mem_append_left _ hmem)
      rw [getF_toStp hj hal'] at this
      unfold Sp.F at this
      rw [hpv] at this
      exact this
    have hpe : pendsO s.preds vals ss 0 = pends ((ss.map Sp.toStp).map (·.d)) vals 0 := pendsO_eq ss 0 fun j s' V hj hal' hpv hm => by
      rw [Nat.zero_add] at hm ⊢; exact heq j s' V hj hal' hpv hm
    have h1 := h vals ex ψ w (st.weaken fun p hp => by
      rcases List.mem_append.1 hp with hp | hp
      · exact List.mem_append_left _ (postFacts_sub p hp)
      · exact List.mem_append_right _ hp)
    rw [hpe] at h1
    have conv : ∀ a' w', StepQ w0 (σ ++ ex) (postFacts ss vals s.preds ++ (φ ++ ψ)) ⟨n, pends ((ss.map Sp.toStp).map (·.d)) vals 0, b⟩ s.d s.F .normal a' w' → StepQ w0 (σ ++ ex) (factsOf (ss.map Sp.toStp) vals s.preds ++ (φ ++ ψ)) ⟨n, pends ((ss.map Sp.toStp).map (·.d)) vals 0, b⟩ s.d s.F .normal a' w' := by
      rintro a' w' ⟨v, φ'', rfl, hst', hF, hsub⟩
      refine ⟨v, factsOf (ss.map Sp.toStp) vals s.preds ++ φ'', rfl, ⟨hst'.base, hst'.own, hst'.fresh, hst'.dist, fun p hp => ?_⟩, hF, fun p hp => ?_⟩
      · rcases List.mem_append.1 hp with hp | hp
        · rcases factsOf_cases hp with hp | ⟨hp1, hp | ⟨j, s', V, hm, hj, hal', hpv, hp⟩⟩
          · exact hst'.views p (hsub p (List.mem_append_left _ hp))
          · rw [hp]; exact trivial
          · rw [hp]; exact heq j s' V hj hal' hpv hm
        · exact hst'.views p hp
      · rcases List.mem_append.1 hp with hp | hp
        · exact List.mem_append_left _ hp
        · exact List.mem_append_right _ (hsub p (List.mem_append_right _ hp))
    unfold wpList at h1 ⊢
    split at h1
    · rename_i hw
      rw [if_pos hw]
      refine .inl ?_
      rcases h1 with h1 | h1
      · exact Oper.wp_conv conv (fun c a w h => h.elim) (fun h => by obtain ⟨a, w, h⟩ := h; exact h.elim) h1
      · obtain ⟨_, a, w, h⟩ := h1; exact h.elim
    · rename_i hw
      rw [if_neg hw]
      exact conv _ _ h1

theorem JC_drawS (hm : P.follows .mixedOrders = true) {id : Nat} {l : List Oper} (np n : Nat) {b : List Value} (ss : List Sp) (hok : drawOk l np (ss.map fun s => (s.d, s.preds)) = true) (hob : OblsS P l w0 σ φ n b ss ss l)
    (hfin : ∀ vals bs, JL P l.toArray Q w0 (σ ++ madeS bs ss 0) (allPosts vals ss 0 ++ φ) (l.drop np) ⟨n, pendsF vals bs ss 0, b⟩) :
    JC P (.region id l.toArray true) Q w0 σ φ ⟨n, [], b⟩ := by
  have hds : (ss.map Sp.toStp).map (fun s => (s.d, s.preds)) = ss.map fun s => (s.d, s.preds) := by rw [List.map_map]; rfl
  have ok := drawOk_spec hok
  refine JC_draw hm np n (ss.map Sp.toStp) (by rw [hds]; exact hok) ?_ ?_
  · have : ∀ (ts : List Sp) (os : List Oper), OblsS P l w0 σ φ n b ss ts os → Obls P l w0 σ φ n b (ss.map Sp.toStp) (ts.map Sp.toStp) os := by
      intro ts
      induction ts with
      | nil => intro os _; trivial
      | cons t ts ih =>
        intro os h
        cases os with
        | nil => exact h.elim
        | cons o os => exact ⟨OblS.obl h.1, ih os h.2⟩
    exact this ss l hob
  · intro vals bs w st
    have hmem : ∀ (j : Nat) (s : Sp), ss[j]? = some s → (match s.al with | some _ => (true, vPure (vals j = Value.pointer (some ⟨bs j, 0, none⟩))) | none => (true, s.F (vals j)) : Bool × VP) ∈ allFacts vals bs (ss.map Sp.toStp) 0 := by
      have : ∀ (ts : List Sp) (k j : Nat) (s : Sp), ts[j]? = some s → (match s.al with | some _ => (true, vPure (vals (k + j) = Value.pointer (some ⟨bs (k + j), 0, none⟩))) | none => (true, s.F (vals (k + j))) : Bool × VP) ∈ allFacts vals bs (ts.map Sp.toStp) k := by
        intro ts
        induction ts with
        | nil => intro k j s h; simp at h
        | cons t ts ih =>
          intro k j s h
          rw [List.map_cons, allFacts]
          show _ ∈ (match t.al with | some _ => _ | none => _)
          cases j with
          | zero =>
            simp at h
            subst h
            simp only [Nat.add_zero]
            cases t.al with
            | some q => exact List.mem_cons_self
            | none => exact List.mem_cons_self
          | succ j =>
            have := ih (k + 1) j s (by simpa using h)
            rw [show k + 1 + j = k + (j + 1) from by omega] at this
            cases t.al with
            | some q => exact List.mem_cons_of_mem _ this
            | none => exact List.mem_cons_of_mem _ this
      intro j s h
      have := this ss 0 j s h
      simpa only [Nat.zero_add] using this
    have hv : ∀ (j : Nat) (s : Sp) (V : Value), ss[j]? = some s → s.al = none → s.pv = some V → vals j = V := by
      intro j s V hj hal hpv
      have h1 := hmem j s hj
      rw [hal] at h1
      have := st.views _ (List.mem_append_left _ h1)
      simp only [Sp.F, hpv] at this
      exact this
    have ha : ∀ (j : Nat) (s : Sp) q, ss[j]? = some s → s.al = some q → vals j = .pointer (some ⟨bs j, 0, none⟩) := by
      intro j s q hj hal
      have h1 := hmem j s hj
      rw [hal] at h1
      exact st.views _ (List.mem_append_left _ h1)
    have hpf : pendsF vals bs ss 0 = pends ((ss.map Sp.toStp).map (·.d)) vals 0 := pendsF_eq ss 0 (fun j s V hj hal hpv => by rw [Nat.zero_add]; exact hv j s V hj hal hpv) (fun j s q hj hal => by rw [Nat.zero_add]; exact ha j s q hj hal)
    have hpost : ∀ p ∈ allPosts vals ss 0, p.2.holds (Xof w0 (σ ++ madeBy bs (ss.map Sp.toStp) 0) p.1) w := by
      have : ∀ (ts : List Sp) (k : Nat), (∀ (j : Nat) (s : Sp), ts[j]? = some s → ss[k + j]? = some s) → ∀ p ∈ allPosts vals ts k, p.2.holds (Xof w0 (σ ++ madeBy bs (ss.map Sp.toStp) 0) p.1) w := by
        intro ts
        induction ts with
        | nil => intro k _ p h; cases h
        | cons t ts ih =>
          intro k hts p h
          have ih' := ih (k + 1) (fun j s hj => by rw [show k + 1 + j = k + (j + 1) from by omega]; exact hts (j + 1) s (by simpa using hj)) p
          rw [allPosts] at h
          have ht := hts 0 t rfl
          simp only [Nat.add_zero] at ht
          cases hal : t.al with
          | some q => rw [hal] at h; exact ih' h
          | none =>
            rw [hal] at h
            simp only at h
            cases hpv : t.pv with
            | some V => rw [hpv] at h; exact ih' h
            | none =>
              rw [hpv] at h
              rcases List.mem_cons.1 h with rfl | h
              · have h1 := hmem k t ht
                rw [hal] at h1
                have := st.views _ (List.mem_append_left _ h1)
                simp only [Sp.F, hpv] at this
                exact this
              · exact ih' h
      exact this ss 0 (fun j s hj => by rw [Nat.zero_add]; exact hj)
    have := hfin vals bs w
    rw [hpf, madeS_eq] at this
    refine this ⟨st.base, st.own, st.fresh, st.dist, fun p hp => ?_⟩
    rcases List.mem_append.1 hp with hp | hp
    · exact hpost p hp
    · exact st.views p (List.mem_append_right _ hp)

/-! ## Steps of the walk -/
theorem JE_stepV {σx : List Res} {φx φ'' : List (Bool × VP)} {frv : Fr} {d : Nat} {V : Value} (hfr : fr = upd frv d V) (hφ : ∀ p ∈ φx, p ∈ φ'') :
    JE (StepQ w0 σx φx frv d (fun v => vPure (v = V))) .normal w0 σx φ'' fr := JE_step V hfr (fun _ _ => rfl) hφ
theorem JE_stepC {σx : List Res} {φx φ'' : List (Bool × VP)} {frv : Fr} {d : Nat} {Post : Value → List VP → Prop} {v : Value} (φo : List VP) (hfr : fr = upd frv d v) (hP : Post v φo) (hv : ∀ p ∈ φo, (true, p) ∈ φ'') (hφ : ∀ p ∈ φx, p ∈ φ'') :
    JE (StepQ w0 σx φx frv d (vPost Post)) .normal w0 σx φ'' fr := JE_step v hfr (fun _ s => ⟨φo, hP, fun p hp => s.views _ (hv p hp)⟩) hφ
/-- A call's words, opened. -/
theorem JL_usePost {l : List Oper} {v : Value} {Post : Value → List VP → Prop} (h : (true, vPost Post v) ∈ φ) (k : ∀ φo, Post v φo → JL P ops Q w0 σ (φo.map (fun p => (true, p)) ++ φ) l fr) : JL P ops Q w0 σ φ l fr := by
  intro w s
  obtain ⟨φo, hP, hv⟩ := s.views _ h
  refine k φo hP w ⟨s.base, s.own, s.fresh, s.dist, fun p hp => ?_⟩
  rcases List.mem_append.1 hp with hp | hp
  · obtain ⟨q, hq, rfl⟩ := List.mem_map.1 hp
    exact hv q hq
  · exact s.views p hp
/-- A call in a region that draws: its contract serves as it stands. -/
theorem OblS_call {l : List Oper} {n : Nat} {b : List Value} {ss : List Sp} {d : Nat} {preds : List Nat} {Post : Value → List VP → Prop} {ty : TypeId} {pos : String} {aft : Array Edge} {f : FuncId} {x : Operand} {xs : List Operand} {ts : Array TypeId} (vs : (Nat → Value) → List Value) (φin : (Nat → Value) → List VP)
    (hf : ∀ fr, Ev fr x (.func (.func f) #[] #[])) (hc : callable P f = true)
    (h : ∀ (vals : Nat → Value) (ex : List Res) (ψ : List (Bool × VP)) (w : World), St w0 w (σ ++ ex) (postFacts ss vals preds ++ (φ ++ ψ)) → ConF P f (vs vals) (φin vals) Post ∧ EvL ⟨n, pendsO preds vals ss 0, b⟩ xs (vs vals) ∧ Asks w0 (σ ++ ex) (postFacts ss vals preds ++ (φ ++ ψ)) (φin vals)) :
    OblS P l w0 σ φ n b ss (spC d preds Post) ⟨some d, .call { callee := .value x, args := xs.toArray, argTypes := ts }, ty, pos, aft, none⟩ := OblS_C fun vals ex ψ w s => by
  obtain ⟨h1, h2, h3⟩ := h vals ex ψ w s
  refine JL_callF h1 (hf _) hc h2 h3 (fun v φo hP => ?_) w s
  refine JL_nil (JE_stepC φo rfl hP (fun p hp => List.mem_append_left _ (List.mem_map.2 ⟨p, hp, rfl⟩)) (fun p hp => List.mem_append_right _ hp))
theorem JL_normL {l : List Oper} (l' : List Oper) (fr' : Fr) (σ' : List Res) (φ' : List (Bool × VP)) (h0 : l' = l) (h1 : fr' = fr) (h2 : σ' = σ) (h3 : φ' = φ) (h : JL P ops Q w0 σ' φ' l' fr') : JL P ops Q w0 σ φ l fr := by
  subst h0 h1 h2 h3; exact h
end
end Go.Fw
