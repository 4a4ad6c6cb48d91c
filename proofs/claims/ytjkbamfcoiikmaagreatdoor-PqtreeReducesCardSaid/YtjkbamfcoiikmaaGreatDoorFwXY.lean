/- The program logic: a call that is handed one own slice among other resources; boxes given up as views. -/
import Derived.Test.YtjkbamfcoiikmaaGreatDoorFwMN
import Derived.Test.YtjkbamfcoiikmaaGreatDoorFwTW
import Derived.Test.YtjkbamfcoiikmaaGreatDoorFwQS
namespace Go.Fw
open Go Go.RowKit
/-- A view that avoids further blocks. -/
def vUn (K : Nat → Prop) (q : VP) : VP := ⟨fun X w => q.holds (fun k => X k ∨ K k) w, fun _ _ w w' h hs hb hx =>
  q.mono _ _ w w' h hs (fun k hk hn => hb k hk fun hX => hn (.inl hX)) fun k hk hX => hX.elim (fun h' => .inl (hx k hk h')) .inr⟩
section
variable {P : Program} {Q : Exit → Act → World → Prop} {w0 : Ctx} {σ σ' : List Res} {φ φ' : List (Bool × VP)} {fr : Fr} {ops : Array Oper} {rest : List Oper}
  {d : Nat} {ty : TypeId} {pos : String} {aft : Array Edge}
/-- Own resource i is let go: its block is data from now on. -/
theorem St.giveV {w : World} {r : Res} {p : VP} {b : Nat} (s : St w0 w σ φ) (i : Nat) (hi : Nth σ i r) (hkey : r.key = some b) (hp : ∀ X : Nat → Prop, r.holds w → ¬ X b → p.holds X w) : St w0 w (σ.eraseIdx i) ((true, p) :: φ) := by
  have hilt : i < σ.length := (List.getElem?_eq_some_iff.1 hi.get).1
  have hget : σ[i] = r := by have := hi.get; rw [List.getElem?_eq_getElem hilt] at this; simpa using this
  refine (s.dropRes (List.eraseIdx_sublist _ _)).addView (hp _ (s.own _ hi.mem) ?_)
  rintro (⟨q, hr, hrk⟩ | ⟨_, hlt⟩)
  · obtain ⟨m, hm, rfl⟩ := List.mem_iff_getElem.1 hr
    have hd := List.pairwise_iff_getElem.1 s.dist
    rw [List.getElem_eraseIdx] at hrk
    have hlen : (σ.eraseIdx i).length = σ.length - 1 := List.length_eraseIdx_of_lt hilt
    split at hrk
    · rename_i hmi
      exact hd m i (by omega) hilt hmi b hrk (by rw [hget]; exact hkey)
    · rename_i hmi
      exact hd i (m + 1) hilt (by omega) (by omega) b (by rw [hget]; exact hkey) hrk
  · have := s.fresh _ hi.mem b hkey
    have := w0.hY b hlt
    omega
theorem box_cells {w : World} {b : Nat} {T : TypeId} {cs : List Value} {X : Nat → Prop} (h : (box b T cs).holds w) (hX : ¬ X b) : (vCells (some ⟨b, 0, none⟩) cs).holds X w := fun j u hj => ⟨b, 0, rfl, hX, by rw [Nat.zero_add, cell_box h]; exact hj⟩
theorem JL_giveBox {l : List Oper} {b : Nat} {T : TypeId} {cs : List Value} (i : Nat) (hi : Nth σ i (box b T cs)) (k : JL P ops Q w0 (σ.eraseIdx i) ((true, vCells (some ⟨b, 0, none⟩) cs) :: φ) l fr) : JL P ops Q w0 σ φ l fr :=
  JL_conv (fun _ s => s.giveV i hi rfl fun _ h hX => box_cells h hX) k
theorem JL_nilCheck {x : Operand} {a : Addr} (hx : Ev fr x (.pointer (some a))) (k : JL P ops Q w0 σ φ rest (upd fr d (.pointer (some a)))) : JL P ops Q w0 σ φ (⟨some d, .nilCheck x, ty, pos, aft, none⟩ :: rest) fr :=
  JL_pure _ (fun w => by simp [execOp, hx.eq]) k
end
end Go.Fw

/- The program logic: regions that draw their order, with one operation that changes own resources among others that it does not touch. -/
namespace Go.Fw
open Go Go.RowKit
section
variable {P : Program} {Q : Exit → Act → World → Prop} {w0 : Ctx} {σ : List Res} {φ : List (Bool × VP)} {fr : Fr} {ops : Array Oper} {rest : List Oper}
def listedY (N np : Nat) (miss : List Nat) : Array Bool := ((List.range N).map fun i => decide (i < np) && !miss.contains i).toArray
def lateOkY (l : List Oper) (n s0 : Nat) (late : List Nat) (subs : List (List Nat × Nat)) (ds : List (Nat × List Nat)) : Bool :=
  ds.length == n && decide (n ≤ l.length) && decide (s0 < n) &&
  (late.all fun e => decide (e < n ∧ e ≠ s0)) &&
  ((List.range l.length).all fun i => (directs l i).all fun j => j < i) &&
  ((List.range n).all fun i => match ds[i]? with | some (d, ps) => stepOk l i d ps | none => false) &&
  ((ds.map (·.1)).Nodup : Bool) &&
  ((List.range n).all fun i => i == s0 || late.contains i || (reach l s0 s0).contains i) &&
  ((List.range l.length).all fun t => t < n || (reach l t t).contains s0) &&
  ((subl late).all fun m => !closedM l late m || subs.any fun p => p.1 == m) &&
  (subs.all fun p => unl (listedY l.length n p.1) == p.2)
def OblsY (P : Program) (l : List Oper) (w0 : Ctx) (σ : List Res) (φ : List (Bool × VP)) (n : Nat) (b : List Value) (ss : List Sp) (s0 : Nat) : List Sp → List Oper → Nat → Prop
  | [], _, _ => True
  | _ :: _, [], _ => False
  | s :: ts, o :: os, k => (bif Nat.beq k s0 then True else OblS P l w0 σ φ n b ss s o) ∧ OblsY P l w0 σ φ n b ss s0 ts os (k + 1)
theorem OblsY.get' {l : List Oper} {n : Nat} {b : List Value} {ss : List Sp} {s0 : Nat} : ∀ {ts : List Sp} {os : List Oper} {k : Nat} (_ : OblsY P l w0 σ φ n b ss s0 ts os k) (i : Nat) (s : Sp) (o : Oper), k + i ≠ s0 → ts[i]? = some s → os[i]? = some o → OblS P l w0 σ φ n b ss s o
  | [], _, _, _, _, _, _, _, h, _ => by simp at h
  | _ :: _, [], _, h, _, _, _, _, _, _ => h.elim
  | t :: ts, o' :: os, k, h, 0, s, o, hne, hs, ho => by
    simp only [List.getElem?_cons_zero, Option.some.injEq] at hs ho
    subst hs ho
    have h1 := h.1
    have hb : Nat.beq k s0 = false := by
      cases hb : Nat.beq k s0 with
      | false => rfl
      | true => exact absurd (Nat.eq_of_beq_eq_true hb) (by omega)
    rw [hb] at h1
    exact h1
  | t :: ts, o' :: os, k, h, i + 1, s, o, hne, hs, ho => OblsY.get' h.2 i s o (by omega) (by simpa using hs) (by simpa using ho)
theorem OblsY.get {l : List Oper} {n : Nat} {b : List Value} {ss : List Sp} {s0 : Nat} {ts : List Sp} {os : List Oper} (h : OblsY P l w0 σ φ n b ss s0 ts os 0) (i : Nat) (s : Sp) (o : Oper) (hne : i ≠ s0) (hs : ts[i]? = some s) (ho : os[i]? = some o) : OblS P l w0 σ φ n b ss s o :=
  OblsY.get' h i s o (by omega) hs ho
def AllY (P : Program) (l : List Oper) (Q : Exit → Act → World → Prop) (w0 : Ctx) (σ : List Res) (φ : List (Bool × VP)) (n np : Nat) (b : List Value) (ss : List Sp) (os : Oper) (s0 : Nat) : List (List Nat × Nat) → Prop
  | [] => True
  | (m, rem) :: subs => (∀ vals bs r, JL P l.toArray (NextA P l Q (r + rem) (listedY l.length np m)) w0 (σ ++ madeS bs (lateBs ss (s0 :: m)) 0) (allPosts vals (lateBs ss (s0 :: m)) 0 ++ φ) [os] ⟨n, pendsF vals bs (lateBs ss (s0 :: m)) 0, b⟩) ∧ AllY P l Q w0 σ φ n np b ss os s0 subs
theorem AllY.mem {l : List Oper} {n np : Nat} {b : List Value} {ss : List Sp} {os : Oper} {s0 : Nat} {m : List Nat} {rem : Nat} : ∀ {subs : List (List Nat × Nat)}, AllY P l Q w0 σ φ n np b ss os s0 subs → (m, rem) ∈ subs →
    ∀ vals bs r, JL P l.toArray (NextA P l Q (r + rem) (listedY l.length np m)) w0 (σ ++ madeS bs (lateBs ss (s0 :: m)) 0) (allPosts vals (lateBs ss (s0 :: m)) 0 ++ φ) [os] ⟨n, pendsF vals bs (lateBs ss (s0 :: m)) 0, b⟩
  | [], _, h => by cases h
  | (m', rem') :: subs, ha, h => by
    rcases List.mem_cons.1 h with h | h
    · cases h; exact ha.1
    · exact AllY.mem ha.2 h
theorem JC_drawY {n : Nat} {b : List Value} (hm : P.follows .mixedOrders = true) {id : Nat} {l : List Oper} (np s0 : Nat) (late : List Nat) (subs : List (List Nat × Nat)) (ss : List Sp) (hob : OblsY P l w0 σ φ n b ss s0 ss l 0) (hok : lateOkY l np s0 late subs (ss.map fun s => (s.d, s.preds)) = true)
    (hal : (late.all fun e => ((ss[e]?).bind (·.al)).isNone) = true) {os : Oper} (hos : l[s0]? = some os) (hs0 : ((ss[s0]?).bind (·.al)).isNone = true) (hfin : AllY P l Q w0 σ φ n np b ss os s0 subs) :
    JC P (.region id l.toArray true) Q w0 σ φ ⟨n, [], b⟩ := by
  intro w s
  have hds : (ss.map Sp.toStp).map (fun s => (s.d, s.preds)) = ss.map fun s => (s.d, s.preds) := by rw [List.map_map]; rfl
  have toStp_get : ∀ (ts : List Sp) (j : Nat) (s : Sp), ts[j]? = some s → (ts.map Sp.toStp)[j]? = some s.toStp := fun ts j s h => by rw [List.getElem?_map, h]; rfl
  rw [← hds] at hok
  generalize hss' : ss.map Sp.toStp = ss' at hok
  unfold lateOkY at hok
  simp only [Bool.and_eq_true, decide_eq_true_eq, beq_iff_eq, List.all_eq_true, List.mem_range, Bool.or_eq_true] at hok
  obtain ⟨⟨⟨⟨⟨⟨⟨⟨⟨⟨h1, h2⟩, hsn⟩, hlt⟩, h3⟩, h4⟩, h5⟩, h7⟩, h6⟩, h8⟩, h9⟩ := hok
  have hssl : ss'.length = np := by simpa using h1
  have hstepOk : ∀ i d ps, (ss'.map fun s => (s.d, s.preds))[i]? = some (d, ps) → ∃ o, l[i]? = some o ∧ o.dst = some d ∧ (∀ T, o.op = .alloc T → o.guard = none) ∧ ∀ j ∈ ps, j ∈ directs l i := by
    intro i d ps hi
    have hilt : i < np := by rw [← h1]; exact (List.getElem?_eq_some_iff.1 hi).1
    have := h4 i hilt
    rw [hi] at this
    unfold stepOk at this
    simp only at this
    split at this
    · rename_i o ho
      simp only [Bool.and_eq_true, beq_iff_eq, List.all_eq_true] at this
      refine ⟨o, ho, this.1.1, fun T hT => ?_, fun j hj => ?_⟩
      · have h := this.1.2
        simpa [isAlloc, hT] using h
      have := this.2 j hj
      simpa using this
    · cases this
  have hob' : ∀ (i : Nat) (s : Stp) (o : Oper), i ≠ s0 → ss'[i]? = some s → l[i]? = some o → Obl P l w0 σ φ n b ss' s o := by
    intro i s o hne hs ho
    rw [← hss', List.getElem?_map] at hs
    cases hse : ss[i]? with
    | none => rw [hse] at hs; cases hs
    | some t =>
      rw [hse] at hs
      simp only [Option.map_some, Option.some.injEq] at hs
      subst hs
      rw [← hss']
      exact OblS.obl (OblsY.get hob i t o (by omega) hse ho)
  have hal' : ∀ e ∈ late, ∀ s, ss'[e]? = some s → s.al = none := by
    intro e he s hs
    have := List.all_eq_true.1 hal e he
    rw [← hss', List.getElem?_map] at hs
    cases hse : ss[e]? with
    | none => rw [hse] at hs; cases hs
    | some t =>
      rw [hse] at hs this
      simp only [Option.map_some, Option.some.injEq] at hs
      subst hs
      show t.al = none
      simpa using this
  have hal0 : ∀ s, ss'[s0]? = some s → s.al = none := by
    intro s hs
    rw [← hss', List.getElem?_map] at hs
    cases hse : ss[s0]? with
    | none => rw [hse] at hs; cases hs
    | some t =>
      rw [hse] at hs hs0
      simp only [Option.map_some, Option.some.injEq] at hs
      subst hs
      show t.al = none
      simpa using hs0
  refine wp_region_any hm ?_
  let Inv : Array Bool → Act → World → Prop := fun listed a w => listed.size = l.length ∧ Down l listed ∧ (∀ i, np ≤ i ∨ i = s0 → listed.getD i false = false) ∧ ∃ vals bs, Pre w0 σ φ n b ss' listed vals bs a w
  have hready : ∀ (listed : Array Bool), Down l listed → ∀ i, i ∈ Region.ready .any l.toArray listed → ∀ j ∈ directs l i, listed.getD j false = true := by
    intro listed hd i hi j hj
    obtain ⟨h1, h2, o, ho, h3⟩ := mem_ready hi
    obtain ⟨o', e', ho', he, hb, rfl⟩ := directs_inv hj
    have : o = o' := by
      have h4 : l[i]? = some o := by simpa using ho
      rw [h4] at ho'; simpa using ho'
    subst this
    exact h3 e' he hb
  have down_set : ∀ (listed : Array Bool) (i : Nat), listed.size = l.length → i < l.length → Down l listed → (∀ j ∈ directs l i, listed.getD j false = true) → Down l (listed.setIfInBounds i true) := by
    intro listed i hs hi hd hdir j hj k hk
    by_cases h : i = k
    · subst h; exact getD_set_same _ _ (by omega) _
    · rw [getD_set_other _ _ _ h]
      by_cases h' : i = j
      · subst h'; exact hdir k hk
      · rw [getD_set_other _ _ _ h'] at hj
        exact hd j hj k hk
  refine wpAny_inv2 Inv ?_ ?_ _ _ _ _ (by simp) (by simp [unl, List.countP_replicate]) ?_
  · rintro listed a w i ⟨hs, hd, hA, vals, bs, hP⟩ hi fuel hfuel
    obtain ⟨a1, a2, o, ho, _⟩ := mem_ready hi
    have ho' : l[i]? = some o := by simpa using ho
    have hil : i < l.length := by simpa using a1
    have hdir := hready listed hd i hi
    have hds' := down_set listed i hs hil hd hdir
    by_cases hip : i < np ∧ i ≠ s0
    · have hsi : ss'[i]? = some (ss'[i]'(by have := hip.1; omega)) := List.getElem?_eq_getElem (by omega)
      have hstep := Pre.step1' hstepOk h5 h3 hP hsi ho' (by omega) a2 hdir (hob' i _ o hip.2 hsi ho') (Q := Q)
      have hmono : ∀ a' w', (∃ vals' bs', Pre w0 σ φ n b ss' (listed.setIfInBounds i true) vals' bs' a' w') → Inv (listed.setIfInBounds i true) a' w' ∨ wpAny P .any l.toArray Q fuel (listed.setIfInBounds i true) a' w' := fun a' w' hex =>
        .inl ⟨by simpa using hs, hds', fun j hj => by rw [getD_set_other _ _ _ (fun e => hj.elim (fun h => absurd hip.1 (by omega)) (fun h => hip.2 (e.trans h)))]; exact hA j hj, hex⟩
      unfold wpOp
      rw [ho]
      simp only
      split at hstep
      · rename_i hw
        rw [if_pos hw]
        exact hstep.imp (Oper.wp_mono hmono) (fun h => h)
      · rename_i hw
        rw [if_neg hw]
        exact hmono _ _ hstep
    · have hin : i = s0 := by
        rcases Nat.lt_or_ge i np with h | h
        · exact Classical.byContradiction fun hne => hip ⟨h, hne⟩
        · have hr := (h6 i hil).resolve_left (by omega)
          have := reach_listed hd i i hdir s0 (by simpa using hr)
          rw [hA s0 (.inr rfl)] at this
          cases this
      subst hin
      obtain rfl : o = os := by rw [ho'] at hos; simpa using hos
      -- what is missing
      have hmiss : ∀ j, j < np → j ≠ i → listed.getD j false = false → j ∈ late := by
        intro j hj hne hf
        rcases h7 j hj with (h | h) | h
        · exact absurd h hne
        · simpa using h
        · have := reach_listed hd i i hdir j (by simpa using h)
          rw [this] at hf; cases hf
      generalize hmm : late.filter (fun j => !listed.getD j false) = m
      have hmem : ∀ j, j ∈ m ↔ j ∈ late ∧ listed.getD j false = false := by
        intro j; rw [← hmm, List.mem_filter]; simp
      have hcl : closedM l late m = true := by
        unfold closedM
        rw [List.all_eq_true]
        intro j hj
        cases hc : m.contains j with
        | true => rfl
        | false =>
          simp only [Bool.false_or, List.all_eq_true]
          intro k hk
          have hjl : listed.getD j false = true := by
            cases hb : listed.getD j false with
            | true => rfl
            | false => exact absurd ((hmem j).2 ⟨hj, hb⟩) (by simpa using hc)
          have := hd j hjl k hk
          have hkm : k ∉ m := fun h => by rw [((hmem k).1 h).2] at this; cases this
          simpa using hkm
      have hsub := h8 m (by rw [← hmm]; exact mem_subl _ _)
      rw [hcl] at hsub
      obtain ⟨⟨m', rem⟩, hp, hpm⟩ : ∃ p ∈ subs, p.1 = m := by
        rcases hsub with h | h
        · cases h
        · rw [List.any_eq_true] at h
          obtain ⟨p, hp, he⟩ := h
          exact ⟨p, hp, by simpa using he⟩
      obtain rfl : m' = m := hpm
      have hlo : listed.setIfInBounds i true = listedY l.length np m' := by
        refine Array.ext (by simp [listedY, hs]) fun j hj1 hj2 => ?_
        have hjl : j < l.length := by simpa [hs] using hj1
        have e1 : (listed.setIfInBounds i true)[j] = (listed.setIfInBounds i true).getD j false := by rw [Array.getD, dif_pos hj1]; rfl
        rw [e1]
        have e2 : (listedY l.length np m')[j] = (decide (j < np) && !m'.contains j) := by simp [listedY]
        rw [e2]
        by_cases hji : i = j
        · subst hji
          rw [getD_set_same _ _ (by omega)]
          have : i ∉ m' := fun h => (hlt i ((hmem i).1 h).1).2 rfl
          rw [show m'.contains i = false from by simpa using this, decide_eq_true hsn]; rfl
        · rw [getD_set_other _ _ _ hji]
          rcases Nat.lt_or_ge j np with h | h
          · rw [decide_eq_true h, Bool.true_and]
            cases hb : listed.getD j false with
            | true =>
              have : j ∉ m' := fun h => by rw [((hmem j).1 h).2] at hb; cases hb
              rw [show m'.contains j = false from by simpa using this]; rfl
            | false => rw [show m'.contains j = true from by simpa using (hmem j).2 ⟨hmiss j h (fun e => hji e.symm) hb, hb⟩]; rfl
          · rw [hA j (.inl h), decide_eq_false (by omega)]; rfl
      have hrem : unl (listedY l.length np m') = rem := h9 _ hp
      obtain ⟨r, hr⟩ : ∃ r, fuel = r + rem := ⟨fuel - rem, by rw [hlo, hrem] at hfuel; omega⟩
      have hgo := AllY.mem hfin hp vals bs r
      have hfr := hP.fr
      have hex : exOf listed bs ss' 0 = madeBy bs ss' 0 := exOf_made ss' 0 fun j s' hj hn => by
        rw [Nat.zero_add]
        cases hb : listed.getD j false with
        | true => rfl
        | false =>
          by_cases hji : j = i
          · subst hji; exact absurd (hal0 s' hj) hn
          · exact absurd (hal' j (hmiss j (by have := (List.getElem?_eq_some_iff.1 hj).1; omega) hji hb) s' hj) hn
      have hst := hP.st
      have hfact := hP.fact
      rw [hex] at hst hfact
      have hmd := lateBs_made bs ss 0 (i :: m')
      rw [hss'] at hmd
      have hrun : wpList P l.toArray (NextA P l Q (r + rem) (listedY l.length np m')) [o] a w := by
        rw [hfr, ← hss', ← lateBs_d ss (i :: m')]
        refine finS (ts := lateBs ss (i :: m')) (by rw [hmd]; exact hst) ?_ ?_ hgo
        · intro j s' hj hn
          rcases lateBs_get ss (i :: m') j s' hj with ⟨hjm, h⟩ | ⟨hjm, _, _, s'', h, h'⟩
          · have hjs : ss'[j]? = some s'.toStp := by rw [← hss']; exact toStp_get ss j s' h
            refine hP.made j _ hjs hn ?_
            cases hb : listed.getD j false with
            | true => rfl
            | false => exact absurd (List.mem_cons_of_mem _ ((hmem j).2 ⟨hmiss j (by have := (List.getElem?_eq_some_iff.1 hjs).1; omega) (fun e => hjm (by rw [e]; exact List.mem_cons_self)) hb, hb⟩)) hjm
          · have hjs : ss'[j]? = some s''.toStp := by rw [← hss']; exact toStp_get ss j s'' h
            rcases List.mem_cons.1 hjm with rfl | hjm
            · exact absurd (h'.symm.trans (hal0 _ hjs)) hn
            · have := hal' j ((hmem j).1 hjm).1 _ hjs
              exact absurd (h'.symm.trans this) hn
        · intro j s' hj hn
          rw [hmd]
          rcases lateBs_get ss (i :: m') j s' hj with ⟨hjm, h⟩ | ⟨_, h1, h2, _⟩
          · have hjs : ss'[j]? = some s'.toStp := by rw [← hss']; exact toStp_get ss j s' h
            refine hfact j _ hjs hn ?_
            cases hb : listed.getD j false with
            | true => rfl
            | false => exact absurd (List.mem_cons_of_mem _ ((hmem j).2 ⟨hmiss j (by have := (List.getElem?_eq_some_iff.1 hjs).1; omega) (fun e => hjm (by rw [e]; exact List.mem_cons_self)) hb, hb⟩)) hjm
          · have : s'.F = vPost (fun _ _ => True) := by unfold Sp.F; rw [h1, h2]
            rw [this]
            exact ⟨[], trivial, fun p hp => by cases hp⟩
      unfold wpOp
      rw [ho]
      simp only
      unfold wpList at hrun
      rw [hlo, hr]
      split at hrun
      · rename_i hw
        rw [if_pos hw]
        exact hrun.imp (fun h => Oper.wp_conv (fun a w h => .inr h) (fun _ _ _ h => h) (fun h => h) h) (fun h => ⟨h.1, h.2⟩)
      · rename_i hw
        rw [if_neg hw]
        exact .inr hrun
  · rintro listed a w ⟨hs, hd, hA, _⟩ hr
    exfalso
    have hall : ∀ i, i < l.length → listed.getD i false = true := by
      intro i
      induction i using Nat.strongRecOn with
      | _ i ih =>
        intro hi
        cases hl : listed.getD i false with
        | true => rfl
        | false =>
          exfalso
          have : i ∈ Region.ready .any l.toArray listed := by
            refine ready_of (o := l[i]) (by simp [hi]) (by simpa [Array.getD, hs, hi] using hl) ?_
            intro e he hb
            have hdir := directs_spec (l := l) (i := i) (List.getElem?_eq_getElem hi) he hb
            have := h3 i hi _ hdir
            exact ih e.on this (by omega)
          rw [hr] at this
          cases this
    have := hall s0 (by omega)
    rw [hA s0 (.inr rfl)] at this
    cases this
  · have hrep' : ∀ i, (Array.replicate l.toArray.size false).getD i false = false := fun i => by simp [Array.getD]
    refine ⟨by simp, fun i hi => (by rw [hrep' i] at hi; cases hi), fun i _ => hrep' i, fun i => lookL b ((ss'.map (·.d)).getD i 0), fun _ => 0, ?_⟩
    refine ⟨(act_pends_start n b _).symm, ?_, fun i _ _ _ h => (by rw [hrep' i] at h; cases h), fun i _ _ _ h => (by rw [hrep' i] at h; cases h)⟩
    have hex : exOf (Array.replicate l.toArray.size false) (fun _ => 0) ss' 0 = [] := by
      have : ∀ (ts : List Stp) (k : Nat), exOf (Array.replicate l.toArray.size false) (fun _ => 0) ts k = [] := by
        intro ts
        induction ts with
        | nil => intro k; rfl
        | cons t ts ih =>
          intro k
          rw [exOf, ih]
          cases t.al with
          | none => rfl
          | some q => simp only; rw [hrep' k]; rfl
      exact this ss' 0
    rw [hex, List.append_nil]
    exact s.ext ((Below.refl _ _).drew)
end
end Go.Fw

/- The program logic: loops over own maps, and what is deleted on the way. -/
namespace Go.Fw
open Go Go.RowKit
section
variable {P : Program} {Q : Exit → Act → World → Prop} {w0 : Ctx} {σ σ' : List Res} {φ φ' : List (Bool × VP)} {fr : Fr} {ops : Array Oper} {rest : List Oper}
  {d : Nat} {ty : TypeId} {pos : String} {aft : Array Edge}
end
end Go.Fw

/- Cells of lists whose elements have the same number of cells each; slices of a region's own. -/
namespace Go.Fw
open Go Go.RowKit
section
variable {α : Type} (f : α → List Value)
def fcl (l : List α) : List Value := l.flatMap f
variable {f}
theorem fcl_cons (x : α) (l : List α) : fcl f (x :: l) = f x ++ fcl f l := rfl
theorem fcl_app (l m : List α) : fcl f (l ++ m) = fcl f l ++ fcl f m := by unfold fcl; rw [List.flatMap_append]
theorem fcl_snoc (l : List α) (x : α) : fcl f l ++ f x = fcl f (l ++ [x]) := by rw [fcl_app]; simp [fcl]
variable {sz : Nat} (hf : ∀ x, (f x).length = sz)
include hf
theorem fcl_len : ∀ l : List α, (fcl f l).length = l.length * sz
  | [] => by simp [fcl]
  | x :: l => by rw [fcl_cons, List.length_append, fcl_len l, hf, List.length_cons, Nat.add_mul, Nat.one_mul, Nat.add_comm]
theorem fcl_get : ∀ {l : List α} {j : Nat} {x : α}, l[j]? = some x → ∀ m, m < sz → (fcl f l)[j * sz + m]? = (f x)[m]?
  | [], _, _, h, _, _ => by simp at h
  | y :: l, 0, x, h, m, hm => by
    simp at h
    subst h
    rw [fcl_cons, Nat.zero_mul, Nat.zero_add, List.getElem?_append_left (by rw [hf]; exact hm)]
  | y :: l, j + 1, x, h, m, hm => by
    rw [fcl_cons, List.getElem?_append_right (by rw [hf, Nat.add_mul]; omega), hf, show (j + 1) * sz + m - sz = j * sz + m from by rw [Nat.add_mul]; omega]
    exact fcl_get (by simpa using h) m hm
omit hf in
theorem allOne_fcl (h : ∀ x, AllOne (f x)) (l : List α) : AllOne (fcl f l) := by
  intro v hv
  unfold fcl at hv
  obtain ⟨x, _, hx⟩ := List.mem_flatMap.1 hv
  exact h x v hx
theorem fcl_getA {z : α} {l : List α} {j : Nat} (h : j < l.length) (m : Nat) (v : Value) (hv : (f (l.getD j z))[m]? = some v) : (fcl f l)[j * sz + m]? = some v := by
  have hm : m < sz := by have := (List.getElem?_eq_some_iff.1 hv).1; rwa [hf] at this
  have e : l[j]? = some (l.getD j z) := by rw [List.getD_eq_getElem?_getD, List.getElem?_eq_getElem h]; rfl
  rw [fcl_get hf e m hm, hv]
end
theorem nilF {α : Type} {f : α → List Value} {w : World} {X : Nat → Prop} : (vCells none (fcl f [])).holds X w := by
  intro j u hj; simp [fcl] at hj
/-- A slice of the region's own. -/
def ownC (E : TypeId) (sz n : Nat) (cs : List Value) : List Value → Value → Res → Prop := fun _ v r => ∃ ad cap, v = .slice ad n cap ∧ (n ≤ cap ∧ cap ≤ 9223372036854775807) ∧ r = osl ad n cap E sz cs
theorem ownC_mk {E : TypeId} {sz n cap : Nat} {cs : List Value} {l : List Value} {ad : Option Addr} (h : n ≤ cap ∧ cap ≤ 9223372036854775807) : ownC E sz n cs l (.slice ad n cap) (osl ad n cap E sz cs) := ⟨ad, cap, rfl, h, rfl⟩
end Go.Fw
