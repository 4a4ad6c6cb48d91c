/- The rule for a region that draws its order, in the form in which walks use it: known values stand in the frame, results of calls come with their contract's words. -/
import Derived.Test.YtmbgbodkhdfdoaaDoorFwG
namespace Go.Fw
open Go Go.RowKit

structure Sp where
  d : Nat
  preds : List Nat
  pv : Option Value
  post : Value → List VP → Prop
  al : Option (TypeId × List Value)
/-- The value V, whatever the order. -/
def spV (d : Nat) (preds : List Nat) (V : Value) : Sp := ⟨d, preds, some V, fun _ _ => True, none⟩
/-- A call's result. -/
def spC (d : Nat) (preds : List Nat) (Post : Value → List VP → Prop) : Sp := ⟨d, preds, none, Post, none⟩
/-- A new variable. -/
def spA (d : Nat) (T : TypeId) (z : List Value) : Sp := ⟨d, [], none, fun _ _ => True, some (T, z)⟩
def Sp.F (s : Sp) : Value → VP :=
  match s.pv with
  | some V => fun v => vPure (v = V)
  | none => vPost s.post
def Sp.toStp (s : Sp) : Stp := ⟨s.d, s.preds, s.F, s.al⟩
def pendsO (ps : List Nat) (vals : Nat → Value) : List Sp → Nat → List (Nat × Value)
  | [], _ => []
  | s :: l, k => (s.d, match s.al with
    | some _ => vals k
    | none => match s.pv with
      | some V => bif ps.contains k then V else vals k
      | none => vals k) :: pendsO ps vals l (k + 1)
def pendsF (vals : Nat → Value) (bs : Nat → Nat) : List Sp → Nat → List (Nat × Value)
  | [], _ => []
  | s :: l, k => (s.d, match s.al with
    | some _ => .pointer (some ⟨bs k, 0, none⟩)
    | none => match s.pv with
      | some V => V
      | none => vals k) :: pendsF vals bs l (k + 1)
/-- Of the predecessors those that are calls: their facts. -/
def postFacts (ss : List Sp) (vals : Nat → Value) : List Nat → List (Bool × VP)
  | [] => []
  | j :: l => match ss[j]? with
    | some s => match s.al with
      | some _ => postFacts ss vals l
      | none => match s.pv with
        | some _ => postFacts ss vals l
        | none => (true, vPost s.post (vals j)) :: postFacts ss vals l
    | none => postFacts ss vals l
def allPosts (vals : Nat → Value) : List Sp → Nat → List (Bool × VP)
  | [], _ => []
  | s :: l, k => match s.al with
    | some _ => allPosts vals l (k + 1)
    | none => match s.pv with
      | some _ => allPosts vals l (k + 1)
      | none => (true, vPost s.post (vals k)) :: allPosts vals l (k + 1)
def madeS (bs : Nat → Nat) : List Sp → Nat → List Res
  | [], _ => []
  | s :: l, k => match s.al with
    | some (T, z) => box (bs k) T z :: madeS bs l (k + 1)
    | none => madeS bs l (k + 1)

section
variable {P : Program} {Q : Exit → Act → World → Prop} {w0 : Ctx} {σ : List Res} {φ : List (Bool × VP)} {fr : Fr} {ops : Array Oper} {rest : List Oper}
def OblS (P : Program) (l : List Oper) (w0 : Ctx) (σ : List Res) (φ : List (Bool × VP)) (n : Nat) (b : List Value) (ss : List Sp) (s : Sp) (o : Oper) : Prop :=
  match s.al with
  | some (T, z) => o.op = .alloc T ∧ zeroOf P T = some z
  | none => ∀ (vals : Nat → Value) (ex : List Res) (ψ : List (Bool × VP)),
      JL P l.toArray (StepQ w0 (σ ++ ex) (postFacts ss vals s.preds ++ (φ ++ ψ)) ⟨n, pendsO s.preds vals ss 0, b⟩ s.d s.F) w0 (σ ++ ex) (postFacts ss vals s.preds ++ (φ ++ ψ)) [o] ⟨n, pendsO s.preds vals ss 0, b⟩
def OblsS (P : Program) (l : List Oper) (w0 : Ctx) (σ : List Res) (φ : List (Bool × VP)) (n : Nat) (b : List Value) (ss : List Sp) : List Sp → List Oper → Prop
  | [], _ => True
  | _ :: _, [] => False
  | s :: ts, o :: os => OblS P l w0 σ φ n b ss s o ∧ OblsS P l w0 σ φ n b ss ts os
theorem OblS_al {l : List Oper} {n : Nat} {b : List Value} {ss : List Sp} {d : Nat} {T : TypeId} {z : List Value} {o : Oper} (h1 : o.op = .alloc T) (h2 : zeroOf P T = some z) : OblS P l w0 σ φ n b ss (spA d T z) o := ⟨h1, h2⟩
theorem OblS_V {l : List Oper} {n : Nat} {b : List Value} {ss : List Sp} {d : Nat} {preds : List Nat} {V : Value} {o : Oper}
    (h : ∀ (vals : Nat → Value) (ex : List Res) (ψ : List (Bool × VP)), JL P l.toArray (StepQ w0 (σ ++ ex) (postFacts ss vals preds ++ (φ ++ ψ)) ⟨n, pendsO preds vals ss 0, b⟩ d (fun v => vPure (v = V))) w0 (σ ++ ex) (postFacts ss vals preds ++ (φ ++ ψ)) [o] ⟨n, pendsO preds vals ss 0, b⟩) :
    OblS P l w0 σ φ n b ss (spV d preds V) o := h
theorem OblS_C {l : List Oper} {n : Nat} {b : List Value} {ss : List Sp} {d : Nat} {preds : List Nat} {Post : Value → List VP → Prop} {o : Oper}
    (h : ∀ (vals : Nat → Value) (ex : List Res) (ψ : List (Bool × VP)), JL P l.toArray (StepQ w0 (σ ++ ex) (postFacts ss vals preds ++ (φ ++ ψ)) ⟨n, pendsO preds vals ss 0, b⟩ d (vPost Post)) w0 (σ ++ ex) (postFacts ss vals preds ++ (φ ++ ψ)) [o] ⟨n, pendsO preds vals ss 0, b⟩) :
    OblS P l w0 σ φ n b ss (spC d preds Post) o := h

theorem getF_toStp {ss : List Sp} {j : Nat} {s : Sp} (h : ss[j]? = some s) (hal : s.al = none) : getF (ss.map Sp.toStp) j = s.F := by
  have h' : (ss.map Sp.toStp)[j]? = some s.toStp := by rw [List.getElem?_map, h]; rfl
  rw [getF_get h']
  show (match s.al with | some _ => fun _ => vPure True | none => s.F) = s.F
  rw [hal]
/-- Where the facts of the predecessors hold, the frame is the plain one. -/
theorem pendsO_eq {vals : Nat → Value} {ps : List Nat} : ∀ (ss : List Sp) (k : Nat), (∀ j s V, ss[j]? = some s → s.al = none → s.pv = some V → k + j ∈ ps → vals (k + j) = V) → pendsO ps vals ss k = pends ((ss.map Sp.toStp).map (·.d)) vals k
  | [], _, _ => rfl
  | s :: ss, k, h => by
    have ih := pendsO_eq (vals := vals) (ps := ps) ss (k + 1) (fun j s' V hj hal hpv hm => by
      have := h (j + 1) s' V (by simpa using hj) hal hpv (by rwa [show k + (j + 1) = k + 1 + j from by omega])
      rwa [show k + (j + 1) = k + 1 + j from by omega] at this)
    rw [pendsO, ih]
    show _ = (s.d, vals k) :: _
    congr 1
    cases hal : s.al with
    | some q => rfl
    | none =>
      cases hpv : s.pv with
      | none => rfl
      | some V =>
        cases hb : ps.contains k with
        | false => rfl
        | true =>
          have := h 0 s V rfl hal hpv (by simpa using hb)
          simp only [Nat.add_zero] at this
          simp [this]
theorem pendsF_eq {vals : Nat → Value} {bs : Nat → Nat} : ∀ (ss : List Sp) (k : Nat), (∀ j s V, ss[j]? = some s → s.al = none → s.pv = some V → vals (k + j) = V) → (∀ j s q, ss[j]? = some s → s.al = some q → vals (k + j) = .pointer (some ⟨bs (k + j), 0, none⟩)) → pendsF vals bs ss k = pends ((ss.map Sp.toStp).map (·.d)) vals k
  | [], _, _, _ => rfl
  | s :: ss, k, h, h' => by
    have ih := pendsF_eq (vals := vals) (bs := bs) ss (k + 1) (fun j s' V hj hal hpv => by
      have := h (j + 1) s' V (by simpa using hj) hal hpv
      rwa [show k + (j + 1) = k + 1 + j from by omega] at this) (fun j s' q hj hal => by
      have := h' (j + 1) s' q (by simpa using hj) hal
      rwa [show k + (j + 1) = k + 1 + j from by omega] at this)
    rw [pendsF, ih]
    show _ = (s.d, vals k) :: _
    congr 1
    cases hal : s.al with
    | some q =>
      have := h' 0 s q rfl hal
      simp only [Nat.add_zero] at this
      simp [this]
    | none =>
      cases hpv : s.pv with
      | none => rfl
      | some V =>
        have := h 0 s V rfl hal hpv
        simp only [Nat.add_zero] at this
        simp [this]
theorem madeS_eq {bs : Nat → Nat} : ∀ (ss : List Sp) (k : Nat), madeS bs ss k = madeBy bs (ss.map Sp.toStp) k
  | [], _ => rfl
  | s :: ss, k => by
    rw [madeS, madeS_eq ss (k + 1)]
    show _ = (match s.al with | some (T, z) => box (bs k) T z :: madeBy bs (ss.map Sp.toStp) (k + 1) | none => madeBy bs (ss.map Sp.toStp) (k + 1))
    rfl
theorem postFacts_sub {ss : List Sp} {vals : Nat → Value} : ∀ {ps : List Nat}, ∀ p ∈ postFacts ss vals ps, p ∈ factsOf (ss.map Sp.toStp) vals ps
  | [], p, h => by cases h
  | j :: l, p, h => by
    rw [factsOf]
    rw [postFacts] at h
    cases hj : ss[j]? with
    | none => rw [hj] at h; exact List.mem_cons_of_mem _ (postFacts_sub p h)
    | some s =>
      rw [hj] at h
      simp only at h
      cases hal : s.al with
      | some q => rw [hal] at h; exact List.mem_cons_of_mem _ (postFacts_sub p h)
      | none =>
        rw [hal] at h
        simp only at h
        cases hpv : s.pv with
        | some V => rw [hpv] at h; exact List.mem_cons_of_mem _ (postFacts_sub p h)
        | none =>
          rw [hpv] at h
          rcases List.mem_cons.1 h with rfl | h
          · have hF : getF (ss.map Sp.toStp) j = vPost s.post := by
              rw [getF_toStp hj hal]; unfold Sp.F; rw [hpv]
            rw [hF]
            exact List.mem_cons_self
          · exact List.mem_cons_of_mem _ (postFacts_sub p h)
/-- Every fact of a predecessor: a known value, a call's words, or nothing. -/
theorem factsOf_cases {ss : List Sp} {vals : Nat → Value} {p : Bool × VP} : ∀ {ps : List Nat}, p ∈ factsOf (ss.map Sp.toStp) vals ps → p ∈ postFacts ss vals ps ∨ (p.1 = true ∧ (p.2 = vPure True ∨ ∃ j s V, j ∈ ps ∧ ss[j]? = some s ∧ s.al = none ∧ s.pv = some V ∧ p.2 = vPure (vals j = V)))
  | [], h => by cases h
  | j :: l, h => by
    rw [factsOf] at h
    have go : p ∈ factsOf (ss.map Sp.toStp) vals l → p ∈ postFacts ss vals l ∨ (p.1 = true ∧ (p.2 = vPure True ∨ ∃ j' s V, j' ∈ j :: l ∧ ss[j']? = some s ∧ s.al = none ∧ s.pv = some V ∧ p.2 = vPure (vals j' = V))) := fun h => by
      rcases factsOf_cases h with h | ⟨h1, h | ⟨j', s, V, h2, h3⟩⟩
      · exact .inl h
      · exact .inr ⟨h1, .inl h⟩
      · exact .inr ⟨h1, .inr ⟨j', s, V, List.mem_cons_of_mem _ h2, h3⟩⟩
    have lift : p ∈ postFacts ss vals l → p ∈ postFacts ss vals (j :: l) := fun h => by
      rw [postFacts]
      cases ss[j]? with
      | none => exact h
      | some s =>
        simp only
        cases s.al with
        | some q => exact h
        | none =>
          simp only
          cases s.pv with
          | some V => exact h
          | none => exact List.mem_cons_of_mem _ h
    rcases List.mem_cons.1 h with rfl | h
    · cases hj : ss[j]? with
      | none =>
        have : getF (ss.map Sp.toStp) j = fun _ => vPure True := by
          have hn : (ss.map Sp.toStp)[j]? = none := by rw [List.getElem?_map, hj]; rfl
          have : ∀ (ts : List Stp) (j : Nat), ts[j]? = none → getF ts j = fun _ => vPure True := by
            intro ts
            induction ts with
            | nil => intro j _; rfl
            | cons t ts ih => intro j h; cases j with
              | zero => simp at h
              | succ j => rw [getF]; exact ih j (by simpa using h)
          exact this _ _ hn
        rw [this]
        exact .inr ⟨rfl, .inl rfl⟩
      | some s =>
        cases hal : s.al with
        | some q =>
          have h' : (ss.map Sp.toStp)[j]? = some s.toStp := by rw [List.getElem?_map, hj]; rfl
          have : getF (ss.map Sp.toStp) j = fun _ => vPure True := by
            rw [getF_get h']
            show (match s.al with | some _ => fun _ => vPure True | none => s.F) = _
            rw [hal]
          rw [this]
          exact .inr ⟨rfl, .inl rfl⟩
        | none =>
          rw [getF_toStp hj hal]
          cases hpv : s.pv with
          | some V =>
            refine .inr ⟨rfl, .inr ⟨j, s, V, List.mem_cons_self, hj, hal, hpv, ?_⟩⟩
            simp [Sp.F, hpv]
          | none =>
            refine .inl ?_
            rw [postFacts, hj]
            simp only [hal, hpv]
            have : s.F = vPost s.post := by unfold Sp.F; rw [hpv]
            rw [this]
            exact List.mem_cons_self
    · rcases go h with h | h
      · exact .inl (lift h)
      · exact .inr h
theorem OblS.obl {l : List Oper} {n : Nat} {b : List Value} {ss : List Sp} {s : Sp} {o : Oper} (h : OblS P l w0 σ φ n b ss s o) : Obl P l w0 σ φ n b (ss.map Sp.toStp) s.toStp o := by
  unfold Obl OblS at *
  show (match s.al with | some (T, z) => _ | none => _)
  cases hal : s.al with
  | some q => rw [hal] at h; exact h
  | none =>
    rw [hal] at h
    simp only at h ⊢
    intro vals ex ψ w st
    show wpList P l.toArray (StepQ w0 (σ ++ ex) (factsOf (ss.map Sp.toStp) vals s.preds ++ (φ ++ ψ)) ⟨n, pends ((ss.map Sp.toStp).map (·.d)) vals 0, b⟩ s.d s.F) [o] _ w
    have heq : ∀ j s' V, ss[j]? = some s' → s'.al = none → s'.pv = some V → j ∈ s.preds → vals j = V := by
      intro j s' V hj hal' hpv hm
      have hmem : (true, getF (ss.map Sp.toStp) j (vals j)) ∈ factsOf (ss.map Sp.toStp) vals s.preds := by
        have : ∀ (l : List Nat), j ∈ l → (true, getF (ss.map Sp.toStp) j (vals j)) ∈ factsOf (ss.map Sp.toStp) vals l := by
          intro l
          induction l with
          | nil => intro h; cases h
          | cons k l ih =>
            intro h
            rw [factsOf]
            rcases List.mem_cons.1 h with rfl | h
            · exact List.mem_cons_self
            · exact List.mem_cons_of_mem _ (ih h)
        exact this _ hm
      have := st.views _ (List.mem_append_left _ hmem)
      rw [getF_toStp hj hal'] at this
      unfold Sp.F at this
      rw [hpv] at this
      exact this
    have hpe : pendsO s.preds vals ss 0 = pends ((ss.map Sp.toStp).map (·.d)) vals 0 := pendsO_eq ss 0 fun j s' V hj hal' hpv hm => by
      rw [Nat.zero_add] at hm ⊢; exact heq j s' V hj hal' hpv hm
    have h1 := h vals ex ψ w (st.weaken fun p hp => by
      rcases List.mem_append.1 hp with hp | hp
      · exact List.mem_append_left _ (postFacts_sub p hp)
      · exact List.mem_append_right _ hp)
    rw [hpe] at h1
    have conv : ∀ a' w', StepQ w0 (σ ++ ex) (postFacts ss vals s.preds ++ (φ ++ ψ)) ⟨n, pends ((ss.map Sp.toStp).map (·.d)) vals 0, b⟩ s.d s.F .normal a' w' → StepQ w0 (σ ++ ex) (factsOf (ss.map Sp.toStp) vals s.preds ++ (φ ++ ψ)) ⟨n, pends ((ss.map Sp.toStp).map (·.d)) vals 0, b⟩ s.d s.F .normal a' w' := by
      rintro a' w' ⟨v, φ'', rfl, hst', hF, hsub⟩
      refine ⟨v, factsOf (ss.map Sp.toStp) vals s.preds ++ φ'', rfl, ⟨hst'.base, hst'.own, hst'.fresh, hst'.dist, fun p hp => ?_⟩, hF, fun p hp => ?_⟩
      · rcases List.mem_append.1 hp with hp | hp
        · rcases factsOf_cases hp with hp | ⟨hp1, hp | ⟨j, s', V, hm, hj, hal', hpv, hp⟩⟩
          · exact hst'.views p (hsub p (List.mem_append_left _ hp))
          · rw [hp]; exact trivial
          · rw [hp]; exact heq j s' V hj hal' hpv hm
        · exact hst'.views p hp
      · rcases List.mem_append.1 hp with hp | hp
        · exact List.mem_append_left _ hp
        · exact List.mem_append_right _ (hsub p (List.mem_append_right _ hp))
    unfold wpList at h1 ⊢
    split at h1
    · rename_i hw
      rw [if_pos hw]
      refine .inl ?_
      rcases h1 with h1 | h1
      · exact Oper.wp_conv conv (fun c a w h => h.elim) (fun h => by obtain ⟨a, w, h⟩ := h; exact h.elim) h1
      · obtain ⟨_, a, w, h⟩ := h1; exact h.elim
    · rename_i hw
      rw [if_neg hw]
      exact conv _ _ h1

theorem JC_drawS (hm : P.follows .mixedOrders = true) {id : Nat} {l : List Oper} (np n : Nat) {b : List Value} (ss : List Sp) (hok : drawOk l np (ss.map fun s => (s.d, s.preds)) = true) (hob : OblsS P l w0 σ φ n b ss ss l)
    (hfin : ∀ vals bs, JL P l.toArray Q w0 (σ ++ madeS bs ss 0) (allPosts vals ss 0 ++ φ) (l.drop np) ⟨n, pendsF vals bs ss 0, b⟩) :
    JC P (.region id l.toArray true) Q w0 σ φ ⟨n, [], b⟩ := by
  have hds : (ss.map Sp.toStp).map (fun s => (s.d, s.preds)) = ss.map fun s => (s.d, s.preds) := by rw [List.map_map]; rfl
  have ok := drawOk_spec hok
  refine JC_draw hm np n (ss.map Sp.toStp) (by rw [hds]; exact hok) ?_ ?_
  · have : ∀ (ts : List Sp) (os : List Oper), OblsS P l w0 σ φ n b ss ts os → Obls P l w0 σ φ n b (ss.map Sp.toStp) (ts.map Sp.toStp) os := by
      intro ts
      induction ts with
      | nil => intro os _; trivial
      | cons t ts ih =>
        intro os h
        cases os with
        | nil => exact h.elim
        | cons o os => exact ⟨OblS.obl h.1, ih os h.2⟩
    exact this ss l hob
  · intro vals bs w st
    have hmem : ∀ (j : Nat) (s : Sp), ss[j]? = some s → (match s.al with | some _ => (true, vPure (vals j = Value.pointer (some ⟨bs j, 0, none⟩))) | none => (true, s.F (vals j)) : Bool × VP) ∈ allFacts vals bs (ss.map Sp.toStp) 0 := by
      have : ∀ (ts : List Sp) (k j : Nat) (s : Sp), ts[j]? = some s → (match s.al with | some _ => (true, vPure (vals (k + j) = Value.pointer (some ⟨bs (k + j), 0, none⟩))) | none => (true, s.F (vals (k + j))) : Bool × VP) ∈ allFacts vals bs (ts.map Sp.toStp) k := by
        intro ts
        induction ts with
        | nil => intro k j s h; simp at h
        | cons t ts ih =>
          intro k j s h
          rw [List.map_cons, allFacts]
          show _ ∈ (match t.al with | some _ => _ | none => _)
          cases j with
          | zero =>
            simp at h
            subst h
            simp only [Nat.add_zero]
            cases t.al with
            | some q => exact List.mem_cons_self
            | none => exact List.mem_cons_self
          | succ j =>
            have := ih (k + 1) j s (by simpa using h)
            rw [show k + 1 + j = k + (j + 1) from by omega] at this
            cases t.al with
            | some q => exact List.mem_cons_of_mem _ this
            | none => exact List.mem_cons_of_mem _ this
      intro j s h
      have := this ss 0 j s h
      simpa only [Nat.zero_add] using this
    have hv : ∀ (j : Nat) (s : Sp) (V : Value), ss[j]? = some s → s.al = none → s.pv = some V → vals j = V := by
      intro j s V hj hal hpv
      have h1 := hmem j s hj
      rw [hal] at h1
      have := st.views _ (List.mem_append_left _ h1)
      simp only [Sp.F, hpv] at this
      exact this
    have ha : ∀ (j : Nat) (s : Sp) q, ss[j]? = some s → s.al = some q → vals j = .pointer (some ⟨bs j, 0, none⟩) := by
      intro j s q hj hal
      have h1 := hmem j s hj
      rw [hal] at h1
      exact st.views _ (List.mem_append_left _ h1)
    have hpf : pendsF vals bs ss 0 = pends ((ss.map Sp.toStp).map (·.d)) vals 0 := pendsF_eq ss 0 (fun j s V hj hal hpv => by rw [Nat.zero_add]; exact hv j s V hj hal hpv) (fun j s q hj hal => by rw [Nat.zero_add]; exact ha j s q hj hal)
    have hpost : ∀ p ∈ allPosts vals ss 0, p.2.holds (Xof w0 (σ ++ madeBy bs (ss.map Sp.toStp) 0) p.1) w := by
      have : ∀ (ts : List Sp) (k : Nat), (∀ (j : Nat) (s : Sp), ts[j]? = some s → ss[k + j]? = some s) → ∀ p ∈ allPosts vals ts k, p.2.holds (Xof w0 (σ ++ madeBy bs (ss.map Sp.toStp) 0) p.1) w := by
        intro ts
        induction ts with
        | nil => intro k _ p h; cases h
        | cons t ts ih =>
          intro k hts p h
          have ih' := ih (k + 1) (fun j s hj => by rw [show k + 1 + j = k + (j + 1) from by omega]; exact hts (j + 1) s (by simpa using hj)) p
          rw [allPosts] at h
          have ht := hts 0 t rfl
          simp only [Nat.add_zero] at ht
          cases hal : t.al with
          | some q => rw [hal] at h; exact ih' h
          | none =>
            rw [hal] at h
            simp only at h
            cases hpv : t.pv with
            | some V => rw [hpv] at h; exact ih' h
            | none =>
              rw [hpv] at h
              rcases List.mem_cons.1 h with rfl | h
              · have h1 := hmem k t ht
                rw [hal] at h1
                have := st.views _ (List.mem_append_left _ h1)
                simp only [Sp.F, hpv] at this
                exact this
              · exact ih' h
      exact this ss 0 (fun j s hj => by rw [Nat.zero_add]; exact hj)
    have := hfin vals bs w
    rw [hpf, madeS_eq] at this
    refine this ⟨st.base, st.own, st.fresh, st.dist, fun p hp => ?_⟩
    rcases List.mem_append.1 hp with hp | hp
    · exact hpost p hp
    · exact st.views p (List.mem_append_right _ hp)

/-! ## Steps of the walk -/
theorem JE_stepV {σx : List Res} {φx φ'' : List (Bool × VP)} {frv : Fr} {d : Nat} {V : Value} (hfr : fr = upd frv d V) (hφ : ∀ p ∈ φx, p ∈ φ'') :
    JE (StepQ w0 σx φx frv d (fun v => vPure (v = V))) .normal w0 σx φ'' fr := JE_step V hfr (fun _ _ => rfl) hφ
theorem JE_stepC {σx : List Res} {φx φ'' : List (Bool × VP)} {frv : Fr} {d : Nat} {Post : Value → List VP → Prop} {v : Value} (φo : List VP) (hfr : fr = upd frv d v) (hP : Post v φo) (hv : ∀ p ∈ φo, (true, p) ∈ φ'') (hφ : ∀ p ∈ φx, p ∈ φ'') :
    JE (StepQ w0 σx φx frv d (vPost Post)) .normal w0 σx φ'' fr := JE_step v hfr (fun _ s => ⟨φo, hP, fun p hp => s.views _ (hv p hp)⟩) hφ
/-- A call's words, opened. -/
theorem JL_usePost {l : List Oper} {v : Value} {Post : Value → List VP → Prop} (h : (true, vPost Post v) ∈ φ) (k : ∀ φo, Post v φo → JL P ops Q w0 σ (φo.map (fun p => (true, p)) ++ φ) l fr) : JL P ops Q w0 σ φ l fr := by
  intro w s
  obtain ⟨φo, hP, hv⟩ := s.views _ h
  refine k φo hP w ⟨s.base, s.own, s.fresh, s.dist, fun p hp => ?_⟩
  rcases List.mem_append.1 hp with hp | hp
  · obtain ⟨q, hq, rfl⟩ := List.mem_map.1 hp
    exact hv q hq
  · exact s.views p hp
/-- A call in a region that draws: its contract serves as it stands. -/
theorem OblS_call {l : List Oper} {n : Nat} {b : List Value} {ss : List Sp} {d : Nat} {preds : List Nat} {Post : Value → List VP → Prop} {ty : TypeId} {pos : String} {aft : Array Edge} {f : FuncId} {x : Operand} {xs : List Operand} {ts : Array TypeId} (vs : (Nat → Value) → List Value) (φin : (Nat → Value) → List VP)
    (hf : ∀ fr, Ev fr x (.func (.func f) #[] #[])) (hc : callable P f = true)
    (h : ∀ (vals : Nat → Value) (ex : List Res) (ψ : List (Bool × VP)) (w : World), St w0 w (σ ++ ex) (postFacts ss vals preds ++ (φ ++ ψ)) → ConF P f (vs vals) (φin vals) Post ∧ EvL ⟨n, pendsO preds vals ss 0, b⟩ xs (vs vals) ∧ Asks w0 (σ ++ ex) (postFacts ss vals preds ++ (φ ++ ψ)) (φin vals)) :
    OblS P l w0 σ φ n b ss (spC d preds Post) ⟨some d, .call { callee := .value x, args := xs.toArray, argTypes := ts }, ty, pos, aft, none⟩ := OblS_C fun vals ex ψ w s => by
  obtain ⟨h1, h2, h3⟩ := h vals ex ψ w s
  refine JL_callF h1 (hf _) hc h2 h3 (fun v φo hP => ?_) w s
  refine JL_nil (JE_stepC φo rfl hP (fun p hp => List.mem_append_left _ (List.mem_map.2 ⟨p, hp, rfl⟩)) (fun p hp => List.mem_append_right _ hp))
theorem JL_normL {l : List Oper} (l' : List Oper) (fr' : Fr) (σ' : List Res) (φ' : List (Bool × VP)) (h0 : l' = l) (h1 : fr' = fr) (h2 : σ' = σ) (h3 : φ' = φ) (h : JL P ops Q w0 σ' φ' l' fr') : JL P ops Q w0 σ φ l fr := by
  subst h0 h1 h2 h3; exact h
end
end Go.Fw
