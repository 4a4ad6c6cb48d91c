/- Function values: made, handed on, called; own boxes as views of a call. -/
import Derived.Test.YtmambmpohkollaaGreatDoorFwC
namespace Go.Fw
open Go Go.RowKit Go.Nat9

section
variable {P : Program} {Q : Exit → Act → World → Prop} {w0 : Ctx} {σ : List Res} {φ : List (Bool × VP)} {fr : Fr} {ops : Array Oper} {rest : List Oper} {d : Nat} {ty : TypeId} {pos : String} {aft : Array Edge}
theorem JL_makeFunc {fn : Fn} {xs : List Operand} {vs : List Value} (ha : EvL fr xs vs) (k : JL P ops Q w0 σ φ rest (upd fr d (.func fn #[] vs.toArray))) :
    JL P ops Q w0 σ φ (⟨some d, .makeFunc fn #[] xs.toArray, ty, pos, aft, none⟩ :: rest) fr :=
  JL_pure _ (fun w => by
    have := ha.eq
    simp [execOp, Instr.makeFunc, ← this]) k
theorem exec_callD {f : FuncId} {x : Operand} {xs : List Operand} {ts : Array TypeId} {vs caps : List Value} {dst : Option Nat} (hf : Ev fr x (.func (.func f) #[] caps.toArray)) (hc : callable P f = true) (ha : xs.map (ev fr) = vs) (w : World) :
    (execOp (ev fr) ⟨dst, .call { callee := .value x, args := xs.toArray, argTypes := ts }, ty, pos, aft, none⟩).run P w = .ok (.enter f (vs ++ caps).toArray) w := by
  subst ha
  simp [execOp, resolve, hf.eq, Deferred.ofValue, invoke, run_callFunc hc]
theorem JL_callD {f : FuncId} {x : Operand} {xs : List Operand} {ts : Array TypeId} {vs caps : List Value} {φin : List VP} {Post : Value → List VP → Prop} (hin : Asks w0 σ φ φin) (con : ConF P f (vs ++ caps) φin Post) (hf : Ev fr x (.func (.func f) #[] caps.toArray)) (hc : callable P f = true) (ha : EvL fr xs vs)
    (k : ∀ v φo, Post v φo → JL P ops Q w0 σ (φo.map (fun p => (true, p)) ++ φ) rest (upd fr d v)) :
    JL P ops Q w0 σ φ (⟨some d, .call { callee := .value x, args := xs.toArray, argTypes := ts }, ty, pos, aft, none⟩ :: rest) fr := by
  intro w s
  have base : wpList P ops Q (⟨some d, .call { callee := .value x, args := xs.toArray, argTypes := ts }, ty, pos, aft, none⟩ :: rest) (act fr) w := by
    refine wpList_plain rfl fun K hK => ?_
    unfold Oper.wp
    rw [act_eval_fun, exec_callD hf hc ha.eq]
    refine (con w (hin w s)).mono ?_
    rintro e w' ⟨v, φo, rfl, hP, hb, hv⟩
    show K ((act fr).put (some d) v) w'
    rw [act_put]
    refine hK _ _ (k v φo hP w' ?_)
    have s' := s.ext hb
    refine ⟨s'.base, s'.own, s'.fresh, s'.dist, fun p hp => ?_⟩
    rcases List.mem_append.1 hp with hp | hp
    · obtain ⟨q, hq, rfl⟩ := List.mem_map.1 hp
      refine q.mono _ _ w' w' (hv q hq) (Nat.le_refl _) (fun _ _ _ => rfl) ?_
      intro b _ hX
      rcases hX with ⟨r, hr, hrk⟩ | ⟨_, hlt⟩
      · exact r.lt w (s.own r hr) b hrk
      · exact Nat.lt_of_lt_of_le (w0.hY _ hlt) s.base.size
    · exact s'.views p hp
  exact base
theorem Asks.list {l : List VP} (h : Asks w0 σ φ l) : ∀ w, St w0 w σ φ → (vList l).holds (fun _ => False) w := fun w s p hp => h w s p hp
end
theorem ConF.ofList {P : Program} {f : FuncId} {args : List Value} {ps l : List VP} {Post : Value → List VP → Prop} (h : ConF P f args (ps ++ l) Post) : ConF P f args (ps ++ [vList l]) Post := fun w hw => h w fun p hp => by
  rcases List.mem_append.1 hp with hp | hp
  · exact hw p (List.mem_append_left _ hp)
  · exact hw (vList l) (List.mem_append_right _ (by simp)) p hp
/-- the first place where p holds, or -1 -/
def firstI (p : Nat → Bool) (n : Nat) (r : Int) : Prop := (r = -1 ∧ ∀ j, j < n → p j = false) ∨ ∃ k, k < n ∧ r = (k : Int) ∧ p k = true ∧ ∀ j, j < k → p j = false
end Go.Fw

/- The program logic's rule for a region that draws its order, where operations also make own resources and change those that the region has made. -/
namespace Go.Fw
open Go Go.RowKit

structure Sr where
  d : Nat
  preds : List Nat
  pv : Option Value
  post : List Value → Value → List VP → Prop
  own : Option (Option Nat)
  R : List Value → Value → Res → Prop
def srReplBy (ss : List Sr) (listed : Array Bool) (k : Nat) : Bool := (List.range ss.length).any fun j => match ss[j]? with
  | some s => match s.own with
    | some (some k') => (k' == k) && listed.getD j false
    | _ => false
  | none => false
def exIdx (ss : List Sr) (listed : Array Bool) : List Nat := (List.range ss.length).filter fun k => (match ss[k]? with | some s => s.own.isSome | none => false) && listed.getD k false && !srReplBy ss listed k
theorem srReplBy_iff {ss : List Sr} {listed : Array Bool} {k : Nat} : srReplBy ss listed k = true ↔ ∃ (j : Nat) (s : Sr), ss[j]? = some s ∧ s.own = some (some k) ∧ listed.getD j false = true := by
  unfold srReplBy
  rw [List.any_eq_true]
  constructor
  · rintro ⟨j, _, h⟩
    split at h
    · rename_i s hs
      split at h
      · rename_i k' hk
        simp only [Bool.and_eq_true, beq_iff_eq] at h
        exact ⟨j, s, hs, by rw [hk, h.1], h.2⟩
      · cases h
    · cases h
  · rintro ⟨j, s, hs, ho, hl⟩
    refine ⟨j, List.mem_range.2 (List.getElem?_eq_some_iff.1 hs).1, ?_⟩
    rw [hs]
    simp [ho, hl]
theorem mem_exIdx {ss : List Sr} {listed : Array Bool} {k : Nat} : k ∈ exIdx ss listed ↔ (∃ s : Sr, ss[k]? = some s ∧ s.own ≠ none) ∧ listed.getD k false = true ∧ ∀ (j : Nat) (s : Sr), ss[j]? = some s → s.own = some (some k) → listed.getD j false = false := by
  unfold exIdx
  rw [List.mem_filter, List.mem_range, Bool.and_eq_true, Bool.and_eq_true, Bool.not_eq_true']
  constructor
  · rintro ⟨_, ⟨h1, h2⟩, h3⟩
    refine ⟨?_, h2, fun j s hj ho => ?_⟩
    · split at h1
      · rename_i s hs; exact ⟨s, hs, by intro e; rw [e] at h1; cases h1⟩
      · cases h1
    · cases hl : listed.getD j false with
      | false => rfl
      | true =>
        have := srReplBy_iff.2 ⟨j, s, hj, ho, hl⟩
        rw [this] at h3; cases h3
  · rintro ⟨⟨s, hs, hn⟩, h2, h3⟩
    refine ⟨(List.getElem?_eq_some_iff.1 hs).1, ⟨?_, h2⟩, ?_⟩
    · rw [hs]
      simp only
      cases ho : s.own with
      | none => exact absurd ho hn
      | some _ => rfl
    · cases hr : srReplBy ss listed k with
      | false => rfl
      | true =>
        obtain ⟨j, s', hj, ho, hl⟩ := srReplBy_iff.1 hr
        rw [h3 j s' hj ho] at hl; cases hl
theorem exIdx_nodup (ss : List Sr) (listed : Array Bool) : (exIdx ss listed).Nodup := List.Pairwise.filter _ List.nodup_range

/-! ## What is left at the end -/
/-! ## What the walks see -/
def pendsOR (ps : List Nat) (vals : Nat → Value) : List Sr → Nat → List (Nat × Value)
  | [], _ => []
  | s :: l, k => (s.d, match s.own with
    | some _ => vals k
    | none => match s.pv with
      | some V => bif ps.contains k then V else vals k
      | none => vals k) :: pendsOR ps vals l (k + 1)
def postFactsR (ss : List Sr) (vals : Nat → Value) : List Nat → List (Bool × VP)
  | [] => []
  | j :: l => match ss[j]? with
    | some s => match s.own with
      | some _ => postFactsR ss vals l
      | none => match s.pv with
        | some _ => postFactsR ss vals l
        | none => (true, vPost (s.post (s.preds.map vals)) (vals j)) :: postFactsR ss vals l
    | none => postFactsR ss vals l
def predR (ss : List Sr) (vals : Nat → Value) (rs : Nat → Res) : List Nat → Prop
  | [] => True
  | j :: l => match ss[j]? with
    | some s => match s.own with
      | some _ => s.R (s.preds.map vals) (vals j) (rs j) ∧ predR ss vals rs l
      | none => predR ss vals rs l
    | none => predR ss vals rs l
/-! ## What is checked -/
structure DrawOkR (l : List Oper) (np n : Nat) (ss : List Sr) : Prop where
  len : ss.length = np
  le : np ≤ l.length
  early : ∀ i, i < l.length → ∀ j ∈ directs l i, j < i
  step : ∀ (i : Nat) (s : Sr), ss[i]? = some s → ∃ o, l[i]? = some o ∧ (o.dst = some s.d ∨ o.dst = none ∧ n ≤ s.d) ∧ (∀ j ∈ s.preds, j ∈ directs l i) ∧ ∀ k, s.own = some (some k) → k ∈ s.preds
  nodup : (ss.map (·.d)).Nodup
  once : ∀ (i j : Nat) (s s' : Sr) (k : Nat), ss[i]? = some s → ss[j]? = some s' → s.own = some (some k) → s'.own = some (some k) → i = j
  src : ∀ (i : Nat) (s : Sr) (k : Nat), ss[i]? = some s → s.own = some (some k) → ∃ s' : Sr, ss[k]? = some s' ∧ s'.own ≠ none
  tail : ∀ t, np ≤ t → t < l.length → ∀ i, i < t → i ∈ reach l t t
/-! ## The rule -/
section
variable {P : Program} {Q : Exit → Act → World → Prop} {w0 : Ctx} {σ : List Res} {φ : List (Bool × VP)} {fr : Fr} {ops : Array Oper} {rest : List Oper}
/-- What an operation that makes or changes a resource must do. -/
def StepG (w0 : Ctx) (σ' : Res → List Res) (φx : List (Bool × VP)) (frv : Fr) (d : Nat) (R : Value → Res → Prop) : Exit → Act → World → Prop
  | .normal, a, w => ∃ v r φ'', a = act (upd frv d v) ∧ St w0 w (σ' r) φ'' ∧ R v r ∧ ∀ p ∈ φx, p ∈ φ''
  | _, _, _ => False
def OblR (P : Program) (l : List Oper) (w0 : Ctx) (σ : List Res) (φ : List (Bool × VP)) (n : Nat) (b : List Value) (ss : List Sr) (s : Sr) (o : Oper) : Prop :=
  match s.own with
  | none => match s.pv with
    | some V => ∀ (vals : Nat → Value) (rs : Nat → Res) (ex : List Res) (ψ : List (Bool × VP)), predR ss vals rs s.preds →
      JL P l.toArray (StepQ w0 (σ ++ ex) (postFactsR ss vals s.preds ++ (φ ++ ψ)) ⟨n, pendsOR s.preds vals ss 0, b⟩ s.d (fun v => vPure (v = V))) w0 (σ ++ ex) (postFactsR ss vals s.preds ++ (φ ++ ψ)) [o] ⟨n, pendsOR s.preds vals ss 0, b⟩
    | none => ∀ (vals : Nat → Value) (rs : Nat → Res) (ex : List Res) (ψ : List (Bool × VP)), predR ss vals rs s.preds →
      JL P l.toArray (StepQ w0 (σ ++ ex) (postFactsR ss vals s.preds ++ (φ ++ ψ)) ⟨n, pendsOR s.preds vals ss 0, b⟩ s.d (vPost (s.post (s.preds.map vals)))) w0 (σ ++ ex) (postFactsR ss vals s.preds ++ (φ ++ ψ)) [o] ⟨n, pendsOR s.preds vals ss 0, b⟩
  | some none => ∀ (vals : Nat → Value) (rs : Nat → Res) (ex : List Res) (ψ : List (Bool × VP)), predR ss vals rs s.preds →
      JL P l.toArray (StepG w0 (fun r => (σ ++ ex) ++ [r]) (postFactsR ss vals s.preds ++ (φ ++ ψ)) ⟨n, pendsOR s.preds vals ss 0, b⟩ s.d (s.R (s.preds.map vals))) w0 (σ ++ ex) (postFactsR ss vals s.preds ++ (φ ++ ψ)) [o] ⟨n, pendsOR s.preds vals ss 0, b⟩
  | some (some k) => ∀ (vals : Nat → Value) (rs : Nat → Res) (ex : List Res) (ψ : List (Bool × VP)), predR ss vals rs s.preds →
      JL P l.toArray (StepG w0 (fun r => σ ++ r :: ex) (postFactsR ss vals s.preds ++ (φ ++ ψ)) ⟨n, pendsOR s.preds vals ss 0, b⟩ s.d (s.R (s.preds.map vals))) w0 (σ ++ rs k :: ex) (postFactsR ss vals s.preds ++ (φ ++ ψ)) [o] ⟨n, pendsOR s.preds vals ss 0, b⟩
def OblsR (P : Program) (l : List Oper) (w0 : Ctx) (σ : List Res) (φ : List (Bool × VP)) (n : Nat) (b : List Value) (ss : List Sr) : List Sr → List Oper → Prop
  | [], _ => True
  | _ :: _, [] => False
  | s :: ts, o :: os => OblR P l w0 σ φ n b ss s o ∧ OblsR P l w0 σ φ n b ss ts os
theorem OblsR.get {l : List Oper} {n : Nat} {b : List Value} {ss : List Sr} : ∀ {ts : List Sr} {os : List Oper} (_ : OblsR P l w0 σ φ n b ss ts os) (i : Nat) (s : Sr) (o : Oper), ts[i]? = some s → os[i]? = some o → OblR P l w0 σ φ n b ss s o
  | [], _, _, _, _, _, h, _ => by simp at h
  | _ :: _, [], h, _, _, _, _, _ => h.elim
  | t :: ts, o' :: os, h, 0, s, o, h1, h2 => by simp at h1 h2; subst h1 h2; exact h.1
  | t :: ts, o' :: os, h, i + 1, s, o, h1, h2 => OblsR.get h.2 i s o (by simpa using h1) (by simpa using h2)

def listedFactsR (listed : Array Bool) (vals : Nat → Value) : List Sr → Nat → List (Bool × VP)
  | [], _ => []
  | s :: l, k => match s.own with
    | some _ => listedFactsR listed vals l (k + 1)
    | none => match s.pv with
      | some _ => listedFactsR listed vals l (k + 1)
      | none => bif listed.getD k false then (true, vPost (s.post (s.preds.map vals)) (vals k)) :: listedFactsR listed vals l (k + 1) else listedFactsR listed vals l (k + 1)
theorem mem_listedFactsR {listed : Array Bool} {vals : Nat → Value} {p : Bool × VP} : ∀ (ss : List Sr) (k : Nat), p ∈ listedFactsR listed vals ss k ↔ ∃ (j : Nat) (s : Sr), ss[j]? = some s ∧ s.own = none ∧ s.pv = none ∧ listed.getD (k + j) false = true ∧ p = (true, vPost (s.post (s.preds.map vals)) (vals (k + j)))
  | [], _ => by simp [listedFactsR]
  | s :: ss, k => by
    have ih := mem_listedFactsR (listed := listed) (vals := vals) (p := p) ss (k + 1)
    have tl : (∃ (j : Nat) (s' : Sr), ss[j]? = some s' ∧ s'.own = none ∧ s'.pv = none ∧ listed.getD (k + 1 + j) false = true ∧ p = (true, vPost (s'.post (s'.preds.map vals)) (vals (k + 1 + j)))) → ∃ (j : Nat) (s' : Sr), (s :: ss)[j]? = some s' ∧ s'.own = none ∧ s'.pv = none ∧ listed.getD (k + j) false = true ∧ p = (true, vPost (s'.post (s'.preds.map vals)) (vals (k + j))) := by
      rintro ⟨j, s', h1, h2⟩
      rw [show k + 1 + j = k + (j + 1) from by omega] at h2
      exact ⟨j + 1, s', by simpa using h1, h2⟩
    have hd : ∀ {j : Nat} {s' : Sr}, (s :: ss)[j]? = some s' → (s'.own = none ∧ s'.pv = none ∧ listed.getD (k + j) false = true ∧ p = (true, vPost (s'.post (s'.preds.map vals)) (vals (k + j)))) → (j = 0 ∧ s' = s) ∨ ∃ (j : Nat) (s' : Sr), ss[j]? = some s' ∧ s'.own = none ∧ s'.pv = none ∧ listed.getD (k + 1 + j) false = true ∧ p = (true, vPost (s'.post (s'.preds.map vals)) (vals (k + 1 + j))) := by
      intro j s' h1 h2
      cases j with
      | zero => simp at h1; exact .inl ⟨rfl, h1.symm⟩
      | succ j =>
        rw [show k + (j + 1) = k + 1 + j from by omega] at h2
        exact .inr ⟨j, s', by simpa using h1, h2⟩
    rw [listedFactsR]
    cases ho : s.own with
    | some q =>
      simp only
      rw [ih]
      refine ⟨tl, ?_⟩
      rintro ⟨j, s', h1, h2⟩
      rcases hd h1 h2 with ⟨_, rfl⟩ | h
      · rw [ho] at h2; cases h2.1
      · exact h
    | none =>
      simp only
      cases hp : s.pv with
      | some V =>
        simp only
        rw [ih]
        refine ⟨tl, ?_⟩
        rintro ⟨j, s', h1, h2⟩
        rcases hd h1 h2 with ⟨_, rfl⟩ | h
        · rw [hp] at h2; cases h2.2.1
        · exact h
      | none =>
        simp only
        cases hl : listed.getD k false with
        | false =>
          simp only [cond_false]
          rw [ih]
          refine ⟨tl, ?_⟩
          rintro ⟨j, s', h1, h2⟩
          rcases hd h1 h2 with ⟨rfl, _⟩ | h
          · rw [Nat.add_zero, hl] at h2; cases h2.2.2.1
          · exact h
        | true =>
          simp only [cond_true, List.mem_cons]
          rw [ih]
          constructor
          · rintro (rfl | h)
            · exact ⟨0, s, rfl, ho, hp, hl, rfl⟩
            · exact tl h
          · rintro ⟨j, s', h1, h2⟩
            rcases hd h1 h2 with ⟨rfl, rfl⟩ | h
            · exact .inl (by simpa using h2.2.2.2)
            · exact .inr h

/-- The state while the prefix runs. -/
structure PreR (w0 : Ctx) (σ : List Res) (φ : List (Bool × VP)) (n : Nat) (b : List Value) (ss : List Sr) (listed : Array Bool) (vals : Nat → Value) (rs : Nat → Res) (a : Act) (w : World) : Prop where
  fr : a = act ⟨n, pends (ss.map (·.d)) vals 0, b⟩
  st : St w0 w (σ ++ (exIdx ss listed).map rs) φ
  val : ∀ (i : Nat) (s : Sr) (V : Value), ss[i]? = some s → s.own = none → s.pv = some V → listed.getD i false = true → vals i = V
  fact : ∀ (i : Nat) (s : Sr), ss[i]? = some s → s.own = none → s.pv = none → listed.getD i false = true → (vPost (s.post (s.preds.map vals)) (vals i)).holds (Xof w0 (σ ++ (exIdx ss listed).map rs) true) w
  rel : ∀ (i : Nat) (s : Sr) (q : Option Nat), ss[i]? = some s → s.own = some q → listed.getD i false = true → s.R (s.preds.map vals) (vals i) (rs i)
theorem map_setV {vals : Nat → Value} {i : Nat} {v : Value} {l : List Nat} (h : i ∉ l) : l.map (setV vals i v) = l.map vals := by
  apply List.map_congr_left
  intro j hj
  simp only [setV]
  rw [if_neg]
  rintro rfl
  exact h hj
theorem PreR.fin {n : Nat} {b : List Value} {ss : List Sr} {listed : Array Bool} {vals : Nat → Value} {rs rs' : Nat → Res} {a : Act} {w w' : World} {φ'' : List (Bool × VP)} (hp : PreR w0 σ φ n b ss listed vals rs a w) (hnd : (ss.map (·.d)).Nodup) {i : Nat} {s : Sr} {v : Value} (hs : ss[i]? = some s) (hsz : i < listed.size)
    (hdown : ∀ (j : Nat) (sj : Sr), ss[j]? = some sj → listed.getD j false = true → i ∉ sj.preds) (hself : i ∉ s.preds) (hrs : ∀ j, j ≠ i → rs' j = rs j) (hst : St w0 w' (σ ++ (exIdx ss (listed.setIfInBounds i true)).map rs') φ'') (hsub : ∀ p ∈ φ ++ listedFactsR listed vals ss 0, p ∈ φ'')
    (hval : ∀ V, s.own = none → s.pv = some V → v = V) (hfact : s.own = none → s.pv = none → (vPost (s.post (s.preds.map vals)) v).holds (Xof w0 (σ ++ (exIdx ss (listed.setIfInBounds i true)).map rs') true) w') (hrel : ∀ q, s.own = some q → s.R (s.preds.map vals) v (rs' i)) :
    PreR w0 σ φ n b ss (listed.setIfInBounds i true) (setV vals i v) rs' (act (upd ⟨n, pends (ss.map (·.d)) vals 0, b⟩ s.d v)) w' := by
  have hdi : (ss.map (·.d))[i]? = some s.d := by rw [List.getElem?_map, hs]; rfl
  have old : ∀ {j}, j ≠ i → (listed.setIfInBounds i true).getD j false = true → listed.getD j false = true := fun h hl => by rwa [getD_set_other _ _ _ (fun e => h e.symm)] at hl
  have vi : setV vals i v i = v := by simp [setV]
  have vj : ∀ {j}, j ≠ i → setV vals i v j = vals j := fun h => by simp [setV, h]
  refine ⟨act_pends_put n b _ hnd vals i s.d hdi v, hst.weaken fun p hpm => hsub p (List.mem_append_left _ hpm), ?_, ?_, ?_⟩
  · intro j s' V hj ho hpv hl
    by_cases h : j = i
    · subst h
      rw [hs] at hj; simp at hj; subst hj
      rw [vi]; exact hval V ho hpv
    · rw [vj h]; exact hp.val j s' V hj ho hpv (old h hl)
  · intro j s' hj ho hpv hl
    by_cases h : j = i
    · subst h
      rw [hs] at hj; simp at hj; subst hj
      rw [vi, map_setV hself]; exact hfact ho hpv
    · rw [vj h, map_setV (hdown j s' hj (old h hl))]
      have hm := (mem_listedFactsR (listed := listed) (vals := vals) ss 0).2 ⟨j, s', hj, ho, hpv, by rw [Nat.zero_add]; exact old h hl, rfl⟩
      rw [Nat.zero_add] at hm
      exact hst.views _ (hsub _ (List.mem_append_right _ hm))
  · intro j s' q hj ho hl
    by_cases h : j = i
    · subst h
      rw [hs] at hj; simp at hj; subst hj
      rw [vi, map_setV hself]; exact hrel q ho
    · rw [vj h, map_setV (hdown j s' hj (old h hl)), hrs j h]
      exact hp.rel j s' q hj ho (old h hl)

theorem PreR.step {l : List Oper} {np n : Nat} {b : List Value} {ss : List Sr} {listed : Array Bool} {vals : Nat → Value} {rs : Nat → Res} {a : Act} {w : World} (hok : DrawOkR l np n ss) (hd : Down l listed)
    (hob : OblsR P l w0 σ φ n b ss ss l) (hp : PreR w0 σ φ n b ss listed vals rs a w) {i : Nat} {s : Sr} {o : Oper} (hs : ss[i]? = some s) (ho : l[i]? = some o) (hsz : i < listed.size) (hun : listed.getD i true = false) (hpr : ∀ j ∈ directs l i, listed.getD j false = true) :
    ∀ {Q : Exit → Act → World → Prop}, if Region.wanted o (yielded l.toArray a.tmps) then o.wp P a w (fun a' w' => ∃ vals' rs', PreR w0 σ φ n b ss (listed.setIfInBounds i true) vals' rs' a' w') Q ∨ (o.asks P a w ∧ LetsOut Q)
      else (∃ vals' rs', PreR w0 σ φ n b ss (listed.setIfInBounds i true) vals' rs' (a.put o.dst undef) w) := by
  obtain ⟨o', ho', hdst, hps, hrep⟩ := hok.step i s hs
  obtain rfl : o = o' := by rw [ho] at ho'; simpa using ho'
  have hob' := hob.get i s o hs ho
  have hunf : listed.getD i false = false := by simpa [Array.getD, hsz] using hun
  have hnd := hok.nodup
  have hearly := hok.early i (List.getElem?_eq_some_iff.1 ho).1
  have hself : i ∉ s.preds := fun h => by have := hearly i (hps i h); omega
  have hdown : ∀ (j : Nat) (sj : Sr), ss[j]? = some sj → listed.getD j false = true → i ∉ sj.preds := by
    intro j sj hj hl hm
    obtain ⟨oj, hoj, _, hpsj, _⟩ := hok.step j sj hj
    have := hd j hl i (hpsj i hm)
    rw [hunf] at this; cases this
  intro Q
  have hfr := hp.fr
  subst hfr
  have hst : St w0 w (σ ++ (exIdx ss listed).map rs) (postFactsR ss vals s.preds ++ (φ ++ listedFactsR listed vals ss 0)) := by
    refine ⟨hp.st.base, hp.st.own, hp.st.fresh, hp.st.dist, fun p hpm => ?_⟩
    rcases List.mem_append.1 hpm with hpm | hpm
    · have : ∀ (ps : List Nat), (∀ j ∈ ps, listed.getD j false = true) → ∀ p ∈ postFactsR ss vals ps, p.2.holds (Xof w0 (σ ++ (exIdx ss listed).map rs) p.1) w := by
        intro ps
        induction ps with
        | nil => intro _ p h; cases h
        | cons j ps ih =>
          intro hps p h
          have ih' := ih (fun j hj => hps j (List.mem_cons_of_mem _ hj)) p
          rw [postFactsR] at h
          cases hj : ss[j]? with
          | none => rw [hj] at h; exact ih' h
          | some sj =>
            rw [hj] at h
            simp only at h
            cases hoj : sj.own with
            | some q => rw [hoj] at h; exact ih' h
            | none =>
              rw [hoj] at h
              simp only at h
              cases hpj : sj.pv with
              | some V => rw [hpj] at h; exact ih' h
              | none =>
                rw [hpj] at h
                rcases List.mem_cons.1 h with rfl | h
                · exact hp.fact j sj hj hoj hpj (hps j List.mem_cons_self)
                · exact ih' h
      exact this s.preds (fun j hj => hpr j (hps j hj)) p hpm
    · rcases List.mem_append.1 hpm with hpm | hpm
      · exact hp.st.views p hpm
      · obtain ⟨j, s', h1, h2, h3, h4, rfl⟩ := (mem_listedFactsR ss 0).1 hpm
        rw [Nat.zero_add] at h4 ⊢
        exact hp.fact j s' h1 h2 h3 h4
  have hpR : predR ss vals rs s.preds := by
    have : ∀ (ps : List Nat), (∀ j ∈ ps, listed.getD j false = true) → predR ss vals rs ps := by
      intro ps
      induction ps with
      | nil => intro _; trivial
      | cons j ps ih =>
        intro hps
        have ih' := ih (fun j hj => hps j (List.mem_cons_of_mem _ hj))
        rw [predR]
        cases hj : ss[j]? with
        | none => exact ih'
        | some sj =>
          simp only
          cases hoj : sj.own with
          | none => exact ih'
          | some q => exact ⟨hp.rel j sj q hj hoj (hps j List.mem_cons_self), ih'⟩
    exact this s.preds (fun j hj => hpr j (hps j hj))
  have hpe : pendsOR s.preds vals ss 0 = pends (ss.map (·.d)) vals 0 := by
    have : ∀ (ts : List Sr) (k : Nat), (∀ (j : Nat) (t : Sr), ts[j]? = some t → ss[k + j]? = some t) → pendsOR s.preds vals ts k = pends (ts.map (·.d)) vals k := by
      intro ts
      induction ts with
      | nil => intro k _; rfl
      | cons t ts ih =>
        intro k hts
        have ih' := ih (k + 1) (fun j t hj => by rw [show k + 1 + j = k + (j + 1) from by omega]; exact hts (j + 1) t (by simpa using hj))
        have ht := hts 0 t rfl
        rw [Nat.add_zero] at ht
        rw [pendsOR, ih']
        show _ = (t.d, vals k) :: _
        congr 1
        cases hot : t.own with
        | some q => rfl
        | none =>
          cases hpt : t.pv with
          | none => rfl
          | some V =>
            cases hb : s.preds.contains k with
            | false => rfl
            | true =>
              have := hp.val k t V ht hot hpt (hpr k (hps k (by simpa using hb)))
              simp [this]
    exact this ss 0 (fun j t hj => by rw [Nat.zero_add]; exact hj)
  unfold OblR at hob'
  have nodupI := exIdx_nodup ss listed
  have nodupI' := exIdx_nodup ss (listed.setIfInBounds i true)
  have oth : ∀ {k}, k ≠ i → (listed.setIfInBounds i true).getD k false = listed.getD k false := fun h => getD_set_other _ _ _ (fun e => h e.symm) _
  have hii : (listed.setIfInBounds i true).getD i false = true := getD_set_same _ _ hsz _
  -- what the listing of i changes among the resources
  have hIne : ∀ k, k ∈ exIdx ss listed → k ≠ i := by
    rintro k hk rfl
    rw [(mem_exIdx.1 hk).2.1] at hunf; cases hunf
  have hnorep : ∀ (j : Nat) (sj : Sr), ss[j]? = some sj → sj.own = some (some i) → (listed.setIfInBounds i true).getD j false = false := by
    intro j sj hj hoj
    obtain ⟨oj, hoj', _, hpsj, hrj⟩ := hok.step j sj hj
    have hm := hrj i hoj
    have hij : j ≠ i := by
      rintro rfl
      rw [hs] at hj; simp at hj; subst hj
      exact hself hm
    rw [oth hij]
    cases hl : listed.getD j false with
    | false => rfl
    | true => exact absurd hm (hdown j sj hj hl)
  cases how : s.own with
  | none =>
    rw [how] at hob'
    have hidx : (exIdx ss (listed.setIfInBounds i true)).Perm (exIdx ss listed) := by
      refine (List.perm_ext_iff_of_nodup nodupI' nodupI).2 fun k => ?_
      rw [mem_exIdx, mem_exIdx]
      constructor
      · rintro ⟨⟨s', hk, hn⟩, h2, h3⟩
        have hki : k ≠ i := by rintro rfl; rw [hs] at hk; simp at hk; subst hk; exact hn how
        refine ⟨⟨s', hk, hn⟩, by rwa [oth hki] at h2, fun j sj hj hoj => ?_⟩
        by_cases hji : j = i
        · subst hji; exact hunf
        · have := h3 j sj hj hoj; rwa [oth hji] at this
      · rintro ⟨⟨s', hk, hn⟩, h2, h3⟩
        have hki : k ≠ i := by rintro rfl; rw [hs] at hk; simp at hk; subst hk; exact hn how
        refine ⟨⟨s', hk, hn⟩, by rwa [oth hki], fun j sj hj hoj => ?_⟩
        have hji : j ≠ i := by rintro rfl; rw [hs] at hj; simp at hj; subst hj; rw [how] at hoj; cases hoj
        rw [oth hji]; exact h3 j sj hj hoj
    have hperm : ((σ ++ (exIdx ss (listed.setIfInBounds i true)).map rs)).Perm (σ ++ (exIdx ss listed).map rs) := List.Perm.append_left _ (hidx.map rs)
    simp only at hob'
    cases hpv : s.pv with
    | some V =>
      rw [hpv] at hob'
      have hJ := hob' vals rs ((exIdx ss listed).map rs) (listedFactsR listed vals ss 0) hpR
      rw [hpe] at hJ
      refine wpList_one (fun c a w h => h) (fun h => by obtain ⟨a, w, h⟩ := h; exact h) (hJ w hst) ?_
      rintro a' w' ⟨v, φ'', rfl, hst', hF, hsub⟩
      exact ⟨setV vals i v, rs, hp.fin hnd hs hsz hdown hself (fun _ _ => rfl) (hst'.perm hperm) (fun p h => hsub p (List.mem_append_right _ h))
        (fun V' _ h => by rw [hpv] at h; simp at h; subst h; exact hF) (fun _ h => by rw [hpv] at h; cases h) (fun q h => by rw [how] at h; cases h)⟩
    | none =>
      rw [hpv] at hob'
      have hJ := hob' vals rs ((exIdx ss listed).map rs) (listedFactsR listed vals ss 0) hpR
      rw [hpe] at hJ
      refine wpList_one (fun c a w h => h) (fun h => by obtain ⟨a, w, h⟩ := h; exact h) (hJ w hst) ?_
      rintro a' w' ⟨v, φ'', rfl, hst', hF, hsub⟩
      have hst2 := hst'.addView (p := (true, vPost (s.post (s.preds.map vals)) v)) hF
      have hst3 := hst2.perm hperm
      exact ⟨setV vals i v, rs, hp.fin hnd hs hsz hdown hself (fun _ _ => rfl) hst3 (fun p h => List.mem_cons_of_mem _ (hsub p (List.mem_append_right _ h)))
        (fun V' _ h => by rw [hpv] at h; cases h) (fun _ _ => hst3.views _ List.mem_cons_self) (fun q h => by rw [how] at h; cases h)⟩
  | some q =>
    rw [how] at hob'
    have setR : ∀ (r : Res) (L : List Nat), (∀ k ∈ L, k ≠ i) → L.map (fun j => if j = i then r else rs j) = L.map rs := by
      intro r L hL
      apply List.map_congr_left
      intro k hk
      rw [if_neg (hL k hk)]
    cases q with
    | none =>
      simp only at hob'
      have hJ := hob' vals rs ((exIdx ss listed).map rs) (listedFactsR listed vals ss 0) hpR
      rw [hpe] at hJ
      refine wpList_one (fun c a w h => h) (fun h => by obtain ⟨a, w, h⟩ := h; exact h) (hJ w hst) ?_
      rintro a' w' ⟨v, r, φ'', rfl, hst', hR, hsub⟩
      have hidx : (exIdx ss (listed.setIfInBounds i true)).Perm (exIdx ss listed ++ [i]) := by
        refine (List.perm_ext_iff_of_nodup nodupI' ?_).2 fun k => ?_
        · refine List.nodup_append.2 ⟨nodupI, by simp, ?_⟩
          intro k hk k' hk'
          simp at hk'
          subst hk'
          exact hIne k hk
        rw [List.mem_append, mem_exIdx, mem_exIdx, List.mem_singleton]
        constructor
        · rintro ⟨⟨s', hk, hn⟩, h2, h3⟩
          by_cases hki : k = i
          · exact .inr hki
          · refine .inl ⟨⟨s', hk, hn⟩, by rwa [oth hki] at h2, fun j sj hj hoj => ?_⟩
            by_cases hji : j = i
            · subst hji; exact hunf
            · have := h3 j sj hj hoj; rwa [oth hji] at this
        · rintro (⟨⟨s', hk, hn⟩, h2, h3⟩ | rfl)
          · have hki : k ≠ i := by rintro rfl; rw [h2] at hunf; cases hunf
            refine ⟨⟨s', hk, hn⟩, by rwa [oth hki], fun j sj hj hoj => ?_⟩
            have hji : j ≠ i := by rintro rfl; rw [hs] at hj; simp at hj; subst hj; rw [how] at hoj; cases hoj
            rw [oth hji]; exact h3 j sj hj hoj
          · exact ⟨⟨s, hs, by rw [how]; simp⟩, hii, hnorep⟩
      have hperm : (σ ++ (exIdx ss (listed.setIfInBounds i true)).map (fun j => if j = i then r else rs j)).Perm ((σ ++ (exIdx ss listed).map rs) ++ [r]) := by
        rw [List.append_assoc]
        refine List.Perm.append_left _ ((hidx.map _).trans ?_)
        rw [List.map_append, setR r _ hIne]
        simp
      exact ⟨setV vals i v, fun j => if j = i then r else rs j, hp.fin hnd hs hsz hdown hself (fun j h => by simp [h]) (hst'.perm hperm) (fun p h => hsub p (List.mem_append_right _ h))
        (fun V' h _ => by rw [how] at h; cases h) (fun h _ => by rw [how] at h; cases h) (fun q _ => by simpa using hR)⟩
    | some k =>
      simp only at hob'
      have hkp := hrep k how
      have hkl := hpr k (hps k hkp)
      obtain ⟨sk, hsk, hskn⟩ := hok.src i s k hs how
      have hkI : k ∈ exIdx ss listed := mem_exIdx.2 ⟨⟨sk, hsk, hskn⟩, hkl, fun j sj hj hoj => by
        have := hok.once j i sj s k hj hs hoj how
        subst this; exact hunf⟩
      have hJ := hob' vals rs (((exIdx ss listed).erase k).map rs) (listedFactsR listed vals ss 0) hpR
      rw [hpe] at hJ
      have hp0 : (σ ++ rs k :: ((exIdx ss listed).erase k).map rs).Perm (σ ++ (exIdx ss listed).map rs) := by
        refine List.Perm.append_left _ ?_
        have := (List.perm_cons_erase hkI).map rs
        rw [List.map_cons] at this
        exact this.symm
      refine wpList_one (fun c a w h => h) (fun h => by obtain ⟨a, w, h⟩ := h; exact h) (hJ w (hst.perm hp0)) ?_
      rintro a' w' ⟨v, r, φ'', rfl, hst', hR, hsub⟩
      have hmE : ∀ {a}, a ∈ (exIdx ss listed).erase k ↔ a ≠ k ∧ a ∈ exIdx ss listed := fun {a} => nodupI.mem_erase_iff
      have hidx : (exIdx ss (listed.setIfInBounds i true)).Perm (i :: (exIdx ss listed).erase k) := by
        refine (List.perm_ext_iff_of_nodup nodupI' ?_).2 fun a => ?_
        · exact List.nodup_cons.2 ⟨fun h => hIne i (hmE.1 h).2 rfl, nodupI.erase k⟩
        rw [List.mem_cons, hmE, mem_exIdx, mem_exIdx]
        constructor
        · rintro ⟨⟨s', hk, hn⟩, h2, h3⟩
          by_cases hai : a = i
          · exact .inl hai
          · refine .inr ⟨?_, ⟨s', hk, hn⟩, by rwa [oth hai] at h2, fun j sj hj hoj => ?_⟩
            · rintro rfl
              have := h3 i s hs how
              rw [hii] at this; cases this
            · by_cases hji : j = i
              · subst hji; exact hunf
              · have := h3 j sj hj hoj; rwa [oth hji] at this
        · rintro (rfl | ⟨hak, ⟨s', hk, hn⟩, h2, h3⟩)
          · exact ⟨⟨s, hs, by rw [how]; simp⟩, hii, hnorep⟩
          · have hai : a ≠ i := by rintro rfl; rw [h2] at hunf; cases hunf
            refine ⟨⟨s', hk, hn⟩, by rwa [oth hai], fun j sj hj hoj => ?_⟩
            have hji : j ≠ i := by
              rintro rfl
              rw [hs] at hj; simp at hj; subst hj
              rw [how] at hoj
              simp at hoj
              exact hak hoj.symm
            rw [oth hji]; exact h3 j sj hj hoj
      have hperm : (σ ++ (exIdx ss (listed.setIfInBounds i true)).map (fun j => if j = i then r else rs j)).Perm (σ ++ r :: ((exIdx ss listed).erase k).map rs) := by
        refine List.Perm.append_left _ ((hidx.map _).trans ?_)
        rw [List.map_cons, setR r _ (fun a ha => hIne a (hmE.1 ha).2)]
        simp
      exact ⟨setV vals i v, fun j => if j = i then r else rs j, hp.fin hnd hs hsz hdown hself (fun j h => by simp [h]) (hst'.perm hperm) (fun p h => hsub p (List.mem_append_right _ h))
        (fun V' h _ => by rw [how] at h; cases h) (fun h _ => by rw [how] at h; cases h) (fun q _ => by simpa using hR)⟩

/-! ## Steps of the walk -/
section
variable {l : List Oper} {n : Nat} {b : List Value} {ss : List Sr} {d : Nat} {preds : List Nat} {o : Oper}
end
end
end Go.Fw

/- The program logic's contracts of functions that are handed own slices and may write into them. -/
namespace Go.Fw
open Go Go.RowKit

def PostO (w0 : Ctx) (p0 p1 : VP) (Post : Value → List Res → List VP → Prop) (e : Ending) (w' : World) : Prop :=
  ∃ v rout φo, e = .returned v ∧ Post v rout φo ∧ St w0 w' rout (φo.map (fun p => (true, p)) ++ [(false, p0), (true, p1)])
def ConO (P : Program) (f : FuncId) (args : List Value) (rin : List Res) (φin : List VP) (Post : Value → List Res → List VP → Prop) : Prop :=
  ∀ (w0 : Ctx) (p0 p1 : VP) (w : World), St w0 w rin (φin.map (fun p => (true, p)) ++ [(false, p0), (true, p1)]) → Calls P f args.toArray w (PostO w0 p0 p1 Post)
theorem ConO_of {P : Program} {f : FuncId} {fn : Func} {c : Code} {args : List Value} {rin : List Res} {φin : List VP} {Post : Value → List Res → List VP → Prop}
    (hf : P.funcs[f]? = some fn) (hb : fn.body = some c) (n : Nat) (b : List Value) (hfr : args ++ List.replicate (fn.ntmps - args.length) undef = b) (hn : b.length = n)
    (h : ∀ w0 p0 p1, JC P c (bodyPost P fn (PostO w0 p0 p1 Post)) w0 rin (φin.map (fun p => (true, p)) ++ [(false, p0), (true, p1)]) ⟨n, [], b⟩) : ConO P f args rin φin Post := by
  intro w0 p0 p1 w s
  refine calls_of_wp hf hb ?_
  have he : (⟨args.toArray ++ Array.replicate (fn.ntmps - args.toArray.size) undef, []⟩ : Act) = act ⟨n, [], b⟩ := by
    rw [← hn, act_start, ← hfr]; simp
  rw [he]
  exact h w0 p0 p1 w s
section
variable {P : Program} {Q : Exit → Act → World → Prop} {w0 : Ctx} {σ : List Res} {φ : List (Bool × VP)} {fr : Fr} {ops : Array Oper} {rest : List Oper}
  {d : Nat} {ty : TypeId} {pos : String} {aft : Array Edge}
theorem JE_retO {p0 p1 : VP} {fn : Func} {Post : Value → List Res → List VP → Prop} {rs : List ResultVar} {vs : List Value} (φo : List VP) (hr : fn.results = rs.toArray) (hv : RVs P σ fr rs vs) (hP : Post (retOf vs) σ φo) (hφ : ∀ p ∈ φo, (true, p) ∈ φ) (h0 : (false, p0) ∈ φ) (h1 : (true, p1) ∈ φ) :
    JE (bodyPost P fn (PostO w0 p0 p1 Post)) .ret w0 σ φ fr := fun _ s =>
  bodyPost_of (run_results hr hv s) ⟨_, σ, φo, rfl, hP, s.weaken fun p hp => by
    rcases List.mem_append.1 hp with hp | hp
    · obtain ⟨q, hq, rfl⟩ := List.mem_map.1 hp; exact hφ q hq
    · simp only [List.mem_cons, List.not_mem_nil, or_false] at hp
      rcases hp with rfl | rfl
      · exact h0
      · exact h1⟩
theorem JE_endO {p0 p1 : VP} {fn : Func} {Post : Value → List Res → List VP → Prop} {rs : List ResultVar} {vs : List Value} (φo : List VP) (hr : fn.results = rs.toArray) (hv : RVs P σ fr rs vs) (hP : Post (retOf vs) σ φo) (hφ : ∀ p ∈ φo, (true, p) ∈ φ) (h0 : (false, p0) ∈ φ) (h1 : (true, p1) ∈ φ) :
    JE (bodyPost P fn (PostO w0 p0 p1 Post)) .normal w0 σ φ fr := fun _ s =>
  bodyPost_of' (run_results hr hv s) ⟨_, σ, φo, rfl, hP, s.weaken fun p hp => by
    rcases List.mem_append.1 hp with hp | hp
    · obtain ⟨q, hq, rfl⟩ := List.mem_map.1 hp; exact hφ q hq
    · simp only [List.mem_cons, List.not_mem_nil, or_false] at hp
      rcases hp with rfl | rfl
      · exact h0
      · exact h1⟩
/-- What is asked, out of the state. -/
def AsksO (w0 : Ctx) (σ : List Res) (φ : List (Bool × VP)) (φin : List VP) : Prop := ∀ w, St w0 w σ φ → ∀ p ∈ φin, p.holds (Xof w0 σ true) w
theorem AsksO.nil : AsksO w0 σ φ [] := fun _ _ p hp => by cases hp
theorem AsksO.cons {p : VP} {ps : List VP} (h : (true, p) ∈ φ) (h' : AsksO w0 σ φ ps) : AsksO w0 σ φ (p :: ps) := fun w s q hq => by
  rcases List.mem_cons.1 hq with rfl | hq
  · exact s.views _ h
  · exact h' w s q hq
end
end Go.Fw
