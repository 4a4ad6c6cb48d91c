/- The program logic: a call that is handed one own slice among other resources; boxes given up as views. -/
import Derived.Test.YtmambmpohkollaaGreatDoorFwMN
import Derived.Test.YtmambmpohkollaaGreatDoorFwTW
import Derived.Test.YtmambmpohkollaaGreatDoorFwQS
namespace Go.Fw
open Go Go.RowKit
/-- The other resources, as a view. -/
def vFrame (σ : List Res) (i : Nat) : VP := ⟨fun X w => ∀ j s, j ≠ i → σ[j]? = some s → s.holds w ∧ ∀ k, s.key = some k → ¬ X k, fun _ _ w w' h _ hb hx j s hj hs => by
  obtain ⟨h1, h2⟩ := h j s hj hs
  exact ⟨s.mono w w' h1 fun k hk => hb k (s.lt w h1 k hk) (h2 k hk), fun k hk hX => h2 k hk (hx k (s.lt w h1 k hk) hX)⟩⟩
/-- A view that avoids further blocks. -/
def vUn (K : Nat → Prop) (q : VP) : VP := ⟨fun X w => q.holds (fun k => X k ∨ K k) w, fun _ _ w w' h hs hb hx =>
  q.mono _ _ w w' h hs (fun k hk hn => hb k hk fun hX => hn (.inl hX)) fun k hk hX => hX.elim (fun h' => .inl (hx k hk h')) .inr⟩
section
variable {P : Program} {Q : Exit → Act → World → Prop} {w0 : Ctx} {σ σ' : List Res} {φ φ' : List (Bool × VP)} {fr : Fr} {ops : Array Oper} {rest : List Oper}
  {d : Nat} {ty : TypeId} {pos : String} {aft : Array Edge}
theorem JL_callOi {f : FuncId} {x : Operand} {xs : List Operand} {ts : Array TypeId} {vs : List Value} {Post : Value → List Res → List VP → Prop} {r r' : Res} {v' : Value} (i : Nat) (con : ConO P f vs [r] [] Post) (hi : Nth σ i r)
    (hP : ∀ v rout φo, Post v rout φo → v = v' ∧ rout = [r'])
    (hf : Ev fr x (.func (.func f) #[] #[])) (hc : callable P f = true) (ha : EvL fr xs vs)
    (k : JL P ops Q w0 (updL σ i r') φ rest (upd fr d v')) :
    JL P ops Q w0 σ φ (⟨some d, .call { callee := .value x, args := xs.toArray, argTypes := ts }, ty, pos, aft, none⟩ :: rest) fr := by
  intro w s
  have hilt : i < σ.length := (List.getElem?_eq_some_iff.1 hi.get).1
  have hget : σ[i] = r := by have := hi.get; rw [List.getElem?_eq_getElem hilt] at this; simpa using this
  let K : Nat → Prop := fun k => ∃ j s, j ≠ i ∧ σ[j]? = some s ∧ s.key = some k
  have hne : ∀ j s, j ≠ i → σ[j]? = some s → ∀ k, s.key = some k → r.key ≠ some k := by
    intro j q hji hj k hk hk'
    have hjlt : j < σ.length := (List.getElem?_eq_some_iff.1 hj).1
    have hgj : σ[j] = q := by rw [List.getElem?_eq_getElem hjlt] at hj; simpa using hj
    rcases Nat.lt_or_gt_of_ne hji with hlt | hgt
    · exact (List.pairwise_iff_getElem.1 s.dist j i hjlt hilt hlt) k (by rw [hgj]; exact hk) (by rw [hget]; exact hk')
    · exact (List.pairwise_iff_getElem.1 s.dist i j hilt hjlt hgt) k (by rw [hget]; exact hk') (by rw [hgj]; exact hk)
  have hsub : ∀ b k, (Xof w0 [r] b k ∨ K k) → Xof w0 σ b k := by
    rintro b k ((⟨q, hq, hk⟩ | hY) | ⟨j, q, _, hj, hk⟩)
    · obtain rfl := List.mem_singleton.1 hq
      exact .inl ⟨_, hi.mem, hk⟩
    · exact .inr hY
    · exact .inl ⟨q, List.mem_of_getElem? hj, hk⟩
  have hs : St w0 w [r] (([] : List VP).map (fun p => (true, p)) ++ [(false, vAnd (vFrame σ i) (vList ((φ.filter (fun q => !q.1)).map (fun q => vUn K q.2)))), (true, vList ((φ.filter (fun q => q.1)).map (fun q => vUn K q.2)))]) := by
    refine ⟨s.base, fun q hq => by obtain rfl := List.mem_singleton.1 hq; exact s.own _ hi.mem, fun q hq => by obtain rfl := List.mem_singleton.1 hq; exact s.fresh _ hi.mem, List.pairwise_singleton _ _, fun p hp => ?_⟩
    simp only [List.map_nil, List.nil_append, List.mem_cons, List.not_mem_nil, or_false] at hp
    rcases hp with rfl | rfl
    · refine ⟨fun j q hj hq => ⟨s.own _ (List.mem_of_getElem? hq), fun k hk hX => ?_⟩, fun p hp => ?_⟩
      · rcases hX with ⟨q', hq', hk'⟩ | ⟨h, _⟩
        · obtain rfl := List.mem_singleton.1 hq'
          exact hne j q hj hq k hk hk'
        · cases h
      · obtain ⟨⟨b, q⟩, hq, rfl⟩ := List.mem_map.1 hp
        obtain ⟨h1, h2⟩ := List.mem_filter.1 hq
        cases b with
        | true => simp at h2
        | false => exact q.mono _ _ w w (s.views _ h1) (Nat.le_refl _) (fun _ _ _ => rfl) fun k _ h => hsub false k h
    · intro p hp
      obtain ⟨⟨b, q⟩, hq, rfl⟩ := List.mem_map.1 hp
      obtain ⟨h1, h2⟩ := List.mem_filter.1 hq
      cases b with
      | false => simp at h2
      | true => exact q.mono _ _ w w (s.views _ h1) (Nat.le_refl _) (fun _ _ _ => rfl) fun k _ h => hsub true k h
  refine wpList_call hf hc ha (con w0 _ _ w hs) ?_
  rintro e w' ⟨v, rout, φo, rfl, hPo, s'⟩
  obtain ⟨rfl, rfl⟩ := hP v rout φo hPo
  have v0 := s'.views (false, vAnd (vFrame σ i) (vList ((φ.filter (fun q => !q.1)).map (fun q => vUn K q.2)))) (List.mem_append_right _ List.mem_cons_self)
  have v1 := s'.views (true, vList ((φ.filter (fun q => q.1)).map (fun q => vUn K q.2))) (List.mem_append_right _ (List.mem_cons_of_mem _ List.mem_cons_self))
  have hfr : ∀ j q, j ≠ i → σ[j]? = some q → q.holds w' ∧ ∀ k, q.key = some k → ¬ Xof w0 [r'] false k := v0.1
  have hmem : ∀ q, q ∈ updL σ i r' → q = r' ∨ ∃ j, j ≠ i ∧ σ[j]? = some q := by
    intro q hq
    rw [updL_set] at hq
    obtain ⟨j, hj, e⟩ := List.mem_iff_getElem.1 hq
    rw [List.getElem_set] at e
    split at e
    · exact .inl e.symm
    · rename_i h
      exact .inr ⟨j, fun e' => h e'.symm, by rw [List.getElem?_eq_getElem (by simpa using hj), e]⟩
  have hsub2 : ∀ b k, Xof w0 (updL σ i r') b k → Xof w0 [r'] b k ∨ K k := by
    rintro b k (⟨q, hq, hk⟩ | hY)
    · rcases hmem q hq with rfl | ⟨j, hj, hq⟩
      · exact .inl (.inl ⟨_, List.mem_cons_self, hk⟩)
      · exact .inr ⟨j, q, hj, hq, hk⟩
    · exact .inl (.inr hY)
  refine ⟨v, rfl, k w' ⟨s'.base, fun q hq => ?_, fun q hq j hj => ?_, ?_, fun p hp => ?_⟩⟩
  · rcases hmem q hq with rfl | ⟨j, hj, hq⟩
    · exact s'.own _ List.mem_cons_self
    · exact (hfr j q hj hq).1
  · rcases hmem q hq with rfl | ⟨j', hj', hq⟩
    · exact s'.fresh _ List.mem_cons_self j hj
    · exact s.fresh _ (List.mem_of_getElem? hq) j hj
  · rw [updL_set]
    refine List.pairwise_iff_getElem.2 fun a b ha hb hab k hka hkb => ?_
    rw [List.length_set] at ha hb
    rw [List.getElem_set] at hka hkb
    split at hka
    · split at hkb
      · omega
      · rename_i hia hib
        exact (hfr b σ[b] (fun e => hib e.symm) (List.getElem?_eq_getElem hb)).2 k hkb (.inl ⟨_, List.mem_cons_self, hka⟩)
    · split at hkb
      · rename_i hia hib
        exact (hfr a σ[a] (fun e => hia e.symm) (List.getElem?_eq_getElem ha)).2 k hka (.inl ⟨_, List.mem_cons_self, hkb⟩)
      · exact (List.pairwise_iff_getElem.1 s.dist a b ha hb hab) k hka hkb
  · obtain ⟨b, q⟩ := p
    cases b with
    | false =>
      have h0 : (vUn K q).holds (Xof w0 [r'] false) w' := v0.2 _ (List.mem_map.2 ⟨(false, q), List.mem_filter.2 ⟨hp, rfl⟩, rfl⟩)
      exact q.mono _ _ w' w' h0 (Nat.le_refl _) (fun _ _ _ => rfl) fun k _ h => hsub2 false k h
    | true =>
      have h0 : (vUn K q).holds (Xof w0 [r'] true) w' := v1 _ (List.mem_map.2 ⟨(true, q), List.mem_filter.2 ⟨hp, rfl⟩, rfl⟩)
      exact q.mono _ _ w' w' h0 (Nat.le_refl _) (fun _ _ _ => rfl) fun k _ h => hsub2 true k h
/-- Own resource i is let go: its block is data from now on. -/
theorem St.giveV {w : World} {r : Res} {p : VP} {b : Nat} (s : St w0 w σ φ) (i : Nat) (hi : Nth σ i r) (hkey : r.key = some b) (hp : ∀ X : Nat → Prop, r.holds w → ¬ X b → p.holds X w) : St w0 w (σ.eraseIdx i) ((true, p) :: φ) := by
  have hilt : i < σ.length := (List.getElem?_eq_some_iff.1 hi.get).1
  have hget : σ[i] = r := by have := hi.get; rw [List.getElem?_eq_getElem hilt] at this; simpa using this
  refine (s.dropRes (List.eraseIdx_sublist _ _)).addView (hp _ (s.own _ hi.mem) ?_)
  rintro (⟨q, hr, hrk⟩ | ⟨_, hlt⟩)
  · obtain ⟨m, hm, rfl⟩ := List.mem_iff_getElem.1 hr
    have hd := List.pairwise_iff_getElem.1 s.dist
    rw [List.getElem_eraseIdx] at hrk
    have hlen : (σ.eraseIdx i).length = σ.length - 1 := List.length_eraseIdx_of_lt hilt
    split at hrk
    · rename_i hmi
      exact hd m i (by omega) hilt hmi b hrk (by rw [hget]; exact hkey)
    · rename_i hmi
      exact hd i (m + 1) hilt (by omega) (by omega) b (by rw [hget]; exact hkey) hrk
  · have := s.fresh _ hi.mem b hkey
    have := w0.hY b hlt
    omega
theorem box_cells {w : World} {b : Nat} {T : TypeId} {cs : List Value} {X : Nat → Prop} (h : (box b T cs).holds w) (hX : ¬ X b) : (vCells (some ⟨b, 0, none⟩) cs).holds X w := fun j u hj => ⟨b, 0, rfl, hX, by rw [Nat.zero_add, cell_box h]; exact hj⟩
theorem JL_giveBox {l : List Oper} {b : Nat} {T : TypeId} {cs : List Value} (i : Nat) (hi : Nth σ i (box b T cs)) (k : JL P ops Q w0 (σ.eraseIdx i) ((true, vCells (some ⟨b, 0, none⟩) cs) :: φ) l fr) : JL P ops Q w0 σ φ l fr :=
  JL_conv (fun _ s => s.giveV i hi rfl fun _ h hX => box_cells h hX) k
theorem JC_giveBox {c : Code} {b : Nat} {T : TypeId} {cs : List Value} (i : Nat) (hi : Nth σ i (box b T cs)) (k : JC P c Q w0 (σ.eraseIdx i) ((true, vCells (some ⟨b, 0, none⟩) cs) :: φ) fr) : JC P c Q w0 σ φ fr :=
  JC_conv (fun _ s => s.giveV i hi rfl fun _ h hX => box_cells h hX) k
theorem JL_nilCheck {x : Operand} {a : Addr} (hx : Ev fr x (.pointer (some a))) (k : JL P ops Q w0 σ φ rest (upd fr d (.pointer (some a)))) : JL P ops Q w0 σ φ (⟨some d, .nilCheck x, ty, pos, aft, none⟩ :: rest) fr :=
  JL_pure _ (fun w => by simp [execOp, hx.eq]) k
end
end Go.Fw

/- The program logic: regions that draw their order, with one operation that changes own resources among others that it does not touch. -/
namespace Go.Fw
open Go Go.RowKit
section
variable {P : Program} {Q : Exit → Act → World → Prop} {w0 : Ctx} {σ : List Res} {φ : List (Bool × VP)} {fr : Fr} {ops : Array Oper} {rest : List Oper}
def listedY (N np : Nat) (miss : List Nat) : Array Bool := ((List.range N).map fun i => decide (i < np) && !miss.contains i).toArray
def lateOkY (l : List Oper) (n s0 : Nat) (late : List Nat) (subs : List (List Nat × Nat)) (ds : List (Nat × List Nat)) : Bool :=
  ds.length == n && decide (n ≤ l.length) && decide (s0 < n) &&
  (late.all fun e => decide (e < n ∧ e ≠ s0)) &&
  ((List.range l.length).all fun i => (directs l i).all fun j => j < i) &&
  ((List.range n).all fun i => match ds[i]? with | some (d, ps) => stepOk l i d ps | none => false) &&
  ((ds.map (·.1)).Nodup : Bool) &&
  ((List.range n).all fun i => i == s0 || late.contains i || (reach l s0 s0).contains i) &&
  ((List.range l.length).all fun t => t < n || (reach l t t).contains s0) &&
  ((subl late).all fun m => !closedM l late m || subs.any fun p => p.1 == m) &&
  (subs.all fun p => unl (listedY l.length n p.1) == p.2)
def OblsY (P : Program) (l : List Oper) (w0 : Ctx) (σ : List Res) (φ : List (Bool × VP)) (n : Nat) (b : List Value) (ss : List Sp) (s0 : Nat) : List Sp → List Oper → Nat → Prop
  | [], _, _ => True
  | _ :: _, [], _ => False
  | s :: ts, o :: os, k => (bif Nat.beq k s0 then True else OblS P l w0 σ φ n b ss s o) ∧ OblsY P l w0 σ φ n b ss s0 ts os (k + 1)
theorem OblsY.get' {l : List Oper} {n : Nat} {b : List Value} {ss : List Sp} {s0 : Nat} : ∀ {ts : List Sp} {os : List Oper} {k : Nat} (_ : OblsY P l w0 σ φ n b ss s0 ts os k) (i : Nat) (s : Sp) (o : Oper), k + i ≠ s0 → ts[i]? = some s → os[i]? = some o → OblS P l w0 σ φ n b ss s o
  | [], _, _, _, _, _, _, _, h, _ => by simp at h
  | _ :: _, [], _, h, _, _, _, _, _, _ => h.elim
  | t :: ts, o' :: os, k, h, 0, s, o, hne, hs, ho => by
    simp only [List.getElem?_cons_zero, Option.some.injEq] at hs ho
    subst hs ho
    have h1 := h.1
    have hb : Nat.beq k s0 = false := by
      cases hb : Nat.beq k s0 with
      | false => rfl
      | true => exact absurd (Nat.eq_of_beq_eq_true hb) (by omega)
    rw [hb] at h1
    exact h1
  | t :: ts, o' :: os, k, h, i + 1, s, o, hne, hs, ho => OblsY.get' h.2 i s o (by omega) (by simpa using hs) (by simpa using ho)
theorem OblsY.get {l : List Oper} {n : Nat} {b : List Value} {ss : List Sp} {s0 : Nat} {ts : List Sp} {os : List Oper} (h : OblsY P l w0 σ φ n b ss s0 ts os 0) (i : Nat) (s : Sp) (o : Oper) (hne : i ≠ s0) (hs : ts[i]? = some s) (ho : os[i]? = some o) : OblS P l w0 σ φ n b ss s o :=
  OblsY.get' h i s o (by omega) hs ho
def AllY (P : Program) (l : List Oper) (Q : Exit → Act → World → Prop) (w0 : Ctx) (σ : List Res) (φ : List (Bool × VP)) (n np : Nat) (b : List Value) (ss : List Sp) (os : Oper) (s0 : Nat) : List (List Nat × Nat) → Prop
  | [] => True
  | (m, rem) :: subs => (∀ vals bs r, JL P l.toArray (NextA P l Q (r + rem) (listedY l.length np m)) w0 (σ ++ madeS bs (lateBs ss (s0 :: m)) 0) (allPosts vals (lateBs ss (s0 :: m)) 0 ++ φ) [os] ⟨n, pendsF vals bs (lateBs ss (s0 :: m)) 0, b⟩) ∧ AllY P l Q w0 σ φ n np b ss os s0 subs
theorem AllY.mem {l : List Oper} {n np : Nat} {b : List Value} {ss : List Sp} {os : Oper} {s0 : Nat} {m : List Nat} {rem : Nat} : ∀ {subs : List (List Nat × Nat)}, AllY P l Q w0 σ φ n np b ss os s0 subs → (m, rem) ∈ subs →
    ∀ vals bs r, JL P l.toArray (NextA P l Q (r + rem) (listedY l.length np m)) w0 (σ ++ madeS bs (lateBs ss (s0 :: m)) 0) (allPosts vals (lateBs ss (s0 :: m)) 0 ++ φ) [os] ⟨n, pendsF vals bs (lateBs ss (s0 :: m)) 0, b⟩
  | [], _, h => by cases h
  | (m', rem') :: subs, ha, h => by
    rcases List.mem_cons.1 h with h | h
    · cases h; exact ha.1
    · exact AllY.mem ha.2 h
theorem JC_drawY {n : Nat} {b : List Value} (hm : P.follows .mixedOrders = true) {id : Nat} {l : List Oper} (np s0 : Nat) (late : List Nat) (subs : List (List Nat × Nat)) (ss : List Sp) (hob : OblsY P l w0 σ φ n b ss s0 ss l 0) (hok : lateOkY l np s0 late subs (ss.map fun s => (s.d, s.preds)) = true)
    (hal : (late.all fun e => ((ss[e]?).bind (·.al)).isNone) = true) {os : Oper} (hos : l[s0]? = some os) (hs0 : ((ss[s0]?).bind (·.al)).isNone = true) (hfin : AllY P l Q w0 σ φ n np b ss os s0 subs) :
    JC P (.region id l.toArray true) Q w0 σ φ ⟨n, [], b⟩ := by
  intro w s
  have hds : (ss.map Sp.toStp).map (fun s => (s.d, s.preds)) = ss.map fun s => (s.d, s.preds) := by rw [List.map_map]; rfl
  have toStp_get : ∀ (ts : List Sp) (j : Nat) (s : Sp), ts[j]? = some s → (ts.map Sp.toStp)[j]? = some s.toStp := fun ts j s h => by rw [List.getElem?_map, h]; rfl
  rw [← hds] at hok
  generalize hss' : ss.map Sp.toStp = ss' at hok
  unfold lateOkY at hok
  simp only [Bool.and_eq_true, decide_eq_true_eq, beq_iff_eq, List.all_eq_true, List.mem_range, Bool.or_eq_true] at hok
  obtain ⟨⟨⟨⟨⟨⟨⟨⟨⟨⟨h1, h2⟩, hsn⟩, hlt⟩, h3⟩, h4⟩, h5⟩, h7⟩, h6⟩, h8⟩, h9⟩ := hok
  have hssl : ss'.length = np := by simpa using h1
  have hstepOk : ∀ i d ps, (ss'.map fun s => (s.d, s.preds))[i]? = some (d, ps) → ∃ o, l[i]? = some o ∧ o.dst = some d ∧ (∀ T, o.op = .alloc T → o.guard = none) ∧ ∀ j ∈ ps, j ∈ directs l i := by
    intro i d ps hi
    have hilt : i < np := by rw [← h1]; exact (List.getElem?_eq_some_iff.1 hi).1
    have := h4 i hilt
    rw [hi] at this
    unfold stepOk at this
    simp only at this
    split at this
    · rename_i o ho
      simp only [Bool.and_eq_true, beq_iff_eq, List.all_eq_true] at this
      refine ⟨o, ho, this.1.1, fun T hT => ?_, fun j hj => ?_⟩
      · have h := this.1.2
        simpa [isAlloc, hT] using h
      have := this.2 j hj
      simpa using this
    · cases this
  have hob' : ∀ (i : Nat) (s : Stp) (o : Oper), i ≠ s0 → ss'[i]? = some s → l[i]? = some o → Obl P l w0 σ φ n b ss' s o := by
    intro i s o hne hs ho
    rw [← hss', List.getElem?_map] at hs
    cases hse : ss[i]? with
    | none => rw [hse] at hs; cases hs
    | some t =>
      rw [hse] at hs
      simp only [Option.map_some, Option.some.injEq] at hs
      subst hs
      rw [← hss']
      exact OblS.obl (OblsY.get hob i t o (by omega) hse ho)
  have hal' : ∀ e ∈ late, ∀ s, ss'[e]? = some s → s.al = none := by
    intro e he s hs
    have := List.all_eq_true.1 hal e he
    rw [← hss', List.getElem?_map] at hs
    cases hse : ss[e]? with
    | none => rw [hse] at hs; cases hs
    | some t =>
      rw [hse] at hs this
      simp only [Option.map_some, Option.some.injEq] at hs
      subst hs
      show t.al = none
      simpa using this
  have hal0 : ∀ s, ss'[s0]? = some s → s.al = none := by
    intro s hs
    rw [← hss', List.getElem?_map] at hs
    cases hse : ss[s0]? with
    | none => rw [hse] at hs; cases hs
    | some t =>
      rw [hse] at hs hs0
      simp only [Option.map_some, Option.some.injEq] at hs
      subst hs
      show t.al = none
      simpa using hs0
  refine wp_region_any hm ?_
  let Inv : Array Bool → Act → World → Prop := fun listed a w => listed.size = l.length ∧ Down l listed ∧ (∀ i, np ≤ i ∨ i = s0 → listed.getD i false = false) ∧ ∃ vals bs, Pre w0 σ φ n b ss' listed vals bs a w
  have hready : ∀ (listed : Array Bool), Down l listed → ∀ i, i ∈ Region.ready .any l.toArray listed → ∀ j ∈ directs l i, listed.getD j false = true := by
    intro listed hd i hi j hj
    obtain ⟨h1, h2, o, ho, h3⟩ := mem_ready hi
    obtain ⟨o', e', ho', he, hb, rfl⟩ := directs_inv hj
    have : o = o' := by
      have h4 : l[i]? = some o := by simpa using ho
      rw [h4] at ho'; simpa using ho'
    subst this
    exact h3 e' he hb
  have down_set : ∀ (listed : Array Bool) (i : Nat), listed.size = l.length → i < l.length → Down l listed → (∀ j ∈ directs l i, listed.getD j false = true) → Down l (listed.setIfInBounds i true) := by
    intro listed i hs hi hd hdir j hj k hk
    by_cases h : i = k
    · subst h; exact getD_set_same _ _ (by omega) _
    · rw [getD_set_other _ _ _ h]
      by_cases h' : i = j
      · subst h'; exact hdir k hk
      · rw [getD_set_other _ _ _ h'] at hj
        exact hd j hj k hk
  refine wpAny_inv2 Inv ?_ ?_ _ _ _ _ (by simp) (by simp [unl, List.countP_replicate]) ?_
  · rintro listed a w i ⟨hs, hd, hA, vals, bs, hP⟩ hi fuel hfuel
    obtain ⟨a1, a2, o, ho, _⟩ := mem_ready hi
    have ho' : l[i]? = some o := by simpa using ho
    have hil : i < l.length := by simpa using a1
    have hdir := hready listed hd i hi
    have hds' := down_set listed i hs hil hd hdir
    by_cases hip : i < np ∧ i ≠ s0
    · have hsi : ss'[i]? = some (ss'[i]'(by have := hip.1; omega)) := List.getElem?_eq_getElem (by omega)
      have hstep := Pre.step1' hstepOk h5 h3 hP hsi ho' (by omega) a2 hdir (hob' i _ o hip.2 hsi ho') (Q := Q)
      have hmono : ∀ a' w', (∃ vals' bs', Pre w0 σ φ n b ss' (listed.setIfInBounds i true) vals' bs' a' w') → Inv (listed.setIfInBounds i true) a' w' ∨ wpAny P .any l.toArray Q fuel (listed.setIfInBounds i true) a' w' := fun a' w' hex =>
        .inl ⟨by simpa using hs, hds', fun j hj => by rw [getD_set_other _ _ _ (fun e => hj.elim (fun h => absurd hip.1 (by omega)) (fun h => hip.2 (e.trans h)))]; exact hA j hj, hex⟩
      unfold wpOp
      rw [ho]
      simp only
      split at hstep
      · rename_i hw
        rw [if_pos hw]
        exact hstep.imp (Oper.wp_mono hmono) (fun h => h)
      · rename_i hw
        rw [if_neg hw]
        exact hmono _ _ hstep
    · have hin : i = s0 := by
        rcases Nat.lt_or_ge i np with h | h
        · exact Classical.byContradiction fun hne => hip ⟨h, hne⟩
        · have hr := (h6 i hil).resolve_left (by omega)
          have := reach_listed hd i i hdir s0 (by simpa using hr)
          rw [hA s0 (.inr rfl)] at this
          cases this
      subst hin
      obtain rfl : o = os := by rw [ho'] at hos; simpa using hos
      -- what is missing
      have hmiss : ∀ j, j < np → j ≠ i → listed.getD j false = false → j ∈ late := by
        intro j hj hne hf
        rcases h7 j hj with (h | h) | h
        · exact absurd h hne
        · simpa using h
        · have := reach_listed hd i i hdir j (by simpa using h)
          rw [this] at hf; cases hf
      generalize hmm : late.filter (fun j => !listed.getD j false) = m
      have hmem : ∀ j, j ∈ m ↔ j ∈ late ∧ listed.getD j false = false := by
        intro j; rw [← hmm, List.mem_filter]; simp
      have hcl : closedM l late m = true := by
        unfold closedM
        rw [List.all_eq_true]
        intro j hj
        cases hc : m.contains j with
        | true => rfl
        | false =>
          simp only [Bool.false_or, List.all_eq_true]
          intro k hk
          have hjl : listed.getD j false = true := by
            cases hb : listed.getD j false with
            | true => rfl
            | false => exact absurd ((hmem j).2 ⟨hj, hb⟩) (by simpa using hc)
          have := hd j hjl k hk
          have hkm : k ∉ m := fun h => by rw [((hmem k).1 h).2] at this; cases this
          simpa using hkm
      have hsub := h8 m (by rw [← hmm]; exact mem_subl _ _)
      rw [hcl] at hsub
      obtain ⟨⟨m', rem⟩, hp, hpm⟩ : ∃ p ∈ subs, p.1 = m := by
        rcases hsub with h | h
        · cases h
        · rw [List.any_eq_true] at h
          obtain ⟨p, hp, he⟩ := h
          exact ⟨p, hp, by simpa using he⟩
      obtain rfl : m' = m := hpm
      have hlo : listed.setIfInBounds i true = listedY l.length np m' := by
        refine Array.ext (by simp [listedY, hs]) fun j hj1 hj2 => ?_
        have hjl : j < l.length := by simpa [hs] using hj1
        have e1 : (listed.setIfInBounds i true)[j] = (listed.setIfInBounds i true).getD j false := by rw [Array.getD, dif_pos hj1]; rfl
        rw [e1]
        have e2 : (listedY l.length np m')[j] = (decide (j < np) && !m'.contains j) := by simp [listedY]
        rw [e2]
        by_cases hji : i = j
        · subst hji
          rw [getD_set_same _ _ (by omega)]
          have : i ∉ m' := fun h => (hlt i ((hmem i).1 h).1).2 rfl
          rw [show m'.contains i = false from by simpa using this, decide_eq_true hsn]; rfl
        · rw [getD_set_other _ _ _ hji]
          rcases Nat.lt_or_ge j np with h | h
          · rw [decide_eq_true h, Bool.true_and]
            cases hb : listed.getD j false with
            | true =>
              have : j ∉ m' := fun h => by rw [((hmem j).1 h).2] at hb; cases hb
              rw [show m'.contains j = false from by simpa using this]; rfl
            | false => rw [show m'.contains j = true from by simpa using (hmem j).2 ⟨hmiss j h (fun e => hji e.symm) hb, hb⟩]; rfl
          · rw [hA j (.inl h), decide_eq_false (by omega)]; rfl
      have hrem : unl (listedY l.length np m') = rem := h9 _ hp
      obtain ⟨r, hr⟩ : ∃ r, fuel = r + rem := ⟨fuel - rem, by rw [hlo, hrem] at hfuel; omega⟩
      have hgo := AllY.mem hfin hp vals bs r
      have hfr := hP.fr
      have hex : exOf listed bs ss' 0 = madeBy bs ss' 0 := exOf_made ss' 0 fun j s' hj hn => by
        rw [Nat.zero_add]
        cases hb : listed.getD j false with
        | true => rfl
        | false =>
          by_cases hji : j = i
          · subst hji; exact absurd (hal0 s' hj) hn
          · exact absurd (hal' j (hmiss j (by have := (List.getElem?_eq_some_iff.1 hj).1; omega) hji hb) s' hj) hn
      have hst := hP.st
      have hfact := hP.fact
      rw [hex] at hst hfact
      have hmd := lateBs_made bs ss 0 (i :: m')
      rw [hss'] at hmd
      have hrun : wpList P l.toArray (NextA P l Q (r + rem) (listedY l.length np m')) [o] a w := by
        rw [hfr, ← hss', ← lateBs_d ss (i :: m')]
        refine finS (ts := lateBs ss (i :: m')) (by rw [hmd]; exact hst) ?_ ?_ hgo
        · intro j s' hj hn
          rcases lateBs_get ss (i :: m') j s' hj with ⟨hjm, h⟩ | ⟨hjm, _, _, s'', h, h'⟩
          · have hjs : ss'[j]? = some s'.toStp := by rw [← hss']; exact toStp_get ss j s' h
            refine hP.made j _ hjs hn ?_
            cases hb : listed.getD j false with
            | true => rfl
            | false => exact absurd (List.mem_cons_of_mem _ ((hmem j).2 ⟨hmiss j (by have := (List.getElem?_eq_some_iff.1 hjs).1; omega) (fun e => hjm (by rw [e]; exact List.mem_cons_self)) hb, hb⟩)) hjm
          · have hjs : ss'[j]? = some s''.toStp := by rw [← hss']; exact toStp_get ss j s'' h
            rcases List.mem_cons.1 hjm with rfl | hjm
            · exact absurd (h'.symm.trans (hal0 _ hjs)) hn
            · have := hal' j ((hmem j).1 hjm).1 _ hjs
              exact absurd (h'.symm.trans this) hn
        · intro j s' hj hn
          rw [hmd]
          rcases lateBs_get ss (i :: m') j s' hj with ⟨hjm, h⟩ | ⟨_, h1, h2, _⟩
          · have hjs : ss'[j]? = some s'.toStp := by rw [← hss']; exact toStp_get ss j s' h
            refine hfact j _ hjs hn ?_
            cases hb : listed.getD j false with
            | true => rfl
            | false => exact absurd (List.mem_cons_of_mem _ ((hmem j).2 ⟨hmiss j (by have := (List.getElem?_eq_some_iff.1 hjs).1; omega) (fun e => hjm (by rw [e]; exact List.mem_cons_self)) hb, hb⟩)) hjm
          · have : s'.F = vPost (fun _ _ => True) := by unfold Sp.F; rw [h1, h2]
            rw [this]
            exact ⟨[], trivial, fun p hp => by cases hp⟩
      unfold wpOp
      rw [ho]
      simp only
      unfold wpList at hrun
      rw [hlo, hr]
      split at hrun
      · rename_i hw
        rw [if_pos hw]
        exact hrun.imp (fun h => Oper.wp_conv (fun a w h => .inr h) (fun _ _ _ h => h) (fun h => h) h) (fun h => ⟨h.1, h.2⟩)
      · rename_i hw
        rw [if_neg hw]
        exact .inr hrun
  · rintro listed a w ⟨hs, hd, hA, _⟩ hr
    exfalso
    have hall : ∀ i, i < l.length → listed.getD i false = true := by
      intro i
      induction i using Nat.strongRecOn with
      | _ i ih =>
        intro hi
        cases hl : listed.getD i false with
        | true => rfl
        | false =>
          exfalso
          have : i ∈ Region.ready .any l.toArray listed := by
            refine ready_of (o := l[i]) (by simp [hi]) (by simpa [Array.getD, hs, hi] using hl) ?_
            intro e he hb
            have hdir := directs_spec (l := l) (i := i) (List.getElem?_eq_getElem hi) he hb
            have := h3 i hi _ hdir
            exact ih e.on this (by omega)
          rw [hr] at this
          cases this
    have := hall s0 (by omega)
    rw [hA s0 (.inr rfl)] at this
    cases this
  · have hrep' : ∀ i, (Array.replicate l.toArray.size false).getD i false = false := fun i => by simp [Array.getD]
    refine ⟨by simp, fun i hi => (by rw [hrep' i] at hi; cases hi), fun i _ => hrep' i, fun i => lookL b ((ss'.map (·.d)).getD i 0), fun _ => 0, ?_⟩
    refine ⟨(act_pends_start n b _).symm, ?_, fun i _ _ _ h => (by rw [hrep' i] at h; cases h), fun i _ _ _ h => (by rw [hrep' i] at h; cases h)⟩
    have hex : exOf (Array.replicate l.toArray.size false) (fun _ => 0) ss' 0 = [] := by
      have : ∀ (ts : List Stp) (k : Nat), exOf (Array.replicate l.toArray.size false) (fun _ => 0) ts k = [] := by
        intro ts
        induction ts with
        | nil => intro k; rfl
        | cons t ts ih =>
          intro k
          rw [exOf, ih]
          cases t.al with
          | none => rfl
          | some q => simp only; rw [hrep' k]; rfl
      exact this ss' 0
    rw [hex, List.append_nil]
    exact s.ext ((Below.refl _ _).drew)
/-- An appended copy of a full slice, as data. -/
theorem JL_appendNV {d : Nat} {ty : TypeId} {pos : String} {aft : Array Edge} {t e : TypeId} {sz by' : Nat} {zs : List Value} {x y : Operand} {ad ad2 : Option Addr} {n cap m c : Nat} {xs news : List Value} (hs : slOf P t = some (e, sz, by', zs)) (hz : zs.length = sz) (hsz : 0 < sz)
    (hx : Ev fr x (.slice ad n cap)) (hy : Ev fr y (.slice ad2 m c)) (hv : Reads w0 σ φ ad xs) (hxl : xs.length = n * sz) (hcap : cap = n) (hm : 0 < m) (hl : news.length = m * sz) (hr : Reads w0 σ φ ad2 news)
    (h63 : n + m ≤ 9223372036854775807) (hbytes : (n + m) * by' ≤ 140737488355328)
    (k : ∀ ad' cap', n + m ≤ cap' ∧ cap' ≤ 9223372036854775807 → JL P ops Q w0 σ ((true, vCells ad' (xs ++ news)) :: φ) rest (upd fr d (.slice ad' (n + m) cap'))) :
    JL P ops Q w0 σ φ (⟨some d, .call { callee := .builtin .append, args := #[x, y], argTypes := #[t, t] }, ty, pos, aft, none⟩ :: rest) fr := by
  refine JL_appendN hs hz hsz hx hy hv hxl hcap hm hl hr h63 hbytes fun ad' cap' => ?_
  refine JL_fact (fun w s => osl_cap (s.own _ (List.mem_append_right _ List.mem_cons_self))) fun hc => ?_
  exact JL_giveLast (k ad' cap' hc)
end
end Go.Fw

/- The program logic: loops over own maps, and what is deleted on the way. -/
namespace Go.Fw
open Go Go.RowKit
/-- An iterator over a map. -/
def iterR (r b since : Nat) (seen : List Nat) (c : Nat) : Res where
  key := some r
  holds w := w.heap[r]? = some (.mapIter (some b) since seen.toArray c)
  lt w h k hk := by
    obtain rfl : r = k := by simpa using hk
    exact (Array.getElem?_eq_some_iff.1 h).1
  mono w w' h hk := (hk r rfl).trans h
section
variable {P : Program} {Q : Exit → Act → World → Prop} {w0 : Ctx} {σ σ' : List Res} {φ φ' : List (Bool × VP)} {fr : Fr} {ops : Array Oper} {rest : List Oper}
  {d : Nat} {ty : TypeId} {pos : String} {aft : Array Edge}
theorem JL_range {t kt et : TypeId} {x : Operand} {b c : Nat} {es : List MapEntry} (i : Nat) (ht : P.underlying t = some (.map kt et)) (hx : Ev fr x (.map (some b))) (hσ : Nth σ i (mapR b es c))
    (k : ∀ r, JL P ops Q w0 (σ ++ [iterR r b c [] c]) φ rest (upd fr d (.pointer (some ⟨r, 0, none⟩)))) : JL P ops Q w0 σ φ (⟨some d, .range t x, ty, pos, aft, none⟩ :: rest) fr := fun w s =>
  wpList_run rfl rfl (by simp [execOp, hx.eq, run_range_map w t kt et b _ c ht (s.own _ hσ.mem)]) (k _ _ (s.addRes (iterR w.heap.size b c [] c) (below_alloc w _) (heap_alloc_new w _) fun j hj => by simp [iterR] at hj; omega))
theorem JL_next {x : Operand} {r b since c0 c : Nat} {seen : List Nat} {es : List MapEntry} (i j : Nat) (hx : Ev fr x (.pointer (some ⟨r, 0, none⟩))) (hi : Nth σ i (mapR b es c)) (hj : Nth σ j (iterR r b since seen c0))
    (hold : ∀ e ∈ es, e.born < since) (hsc : since ≤ c0)
    (hd : (∀ e ∈ es, e.born ∈ seen) → JL P ops Q w0 σ φ rest (upd fr d (.tuple #[.bool false])))
    (hm : ∀ e, e ∈ es → e.born ∉ seen → JL P ops Q w0 (updL σ j (iterR r b since (seen ++ [e.born]) c)) φ rest (upd fr d (.tuple #[.bool true, e.key, e.val]))) :
    JL P ops Q w0 σ φ (⟨some d, .next x false, ty, pos, aft, none⟩ :: rest) fr := by
  intro w s
  have hr := s.own _ hj.mem
  have hb := s.own _ hi.mem
  rcases run_next_at (P := P) w ty r b since c0 seen.toArray es.toArray c hr hb hold hsc with ⟨h0, hrun⟩ | ⟨e, he, w1, hw1, hrun⟩
  · refine wpList_run rfl rfl (by simp [execOp, hx.eq, hrun]) (hd (fun e he => ?_) w s)
    have := all_seen _ _ h0 e he
    simpa using this
  · obtain ⟨he1, he2⟩ := mem_left he
    have hh : w1.heap = w.heap ∧ w1.os = w.os ∧ w1.tape = w.tape ∧ w1.output = w.output := by rcases hw1 with rfl | rfl <;> exact ⟨rfl, rfl, rfl, rfl⟩
    have hr1 : w1.heap[r]? = some (.mapIter (some b) since seen.toArray c0) := by rw [hh.1]; exact hr
    refine wpList_run rfl rfl (by simp [execOp, hx.eq, hrun]; rfl) (hm e he1 (by simpa using he2) _ ?_)
    rw [updL_set]
    refine s.setRes j _ (iterR r b since (seen ++ [e.born]) c) hj.get (by simp [ChangeMaps.setBlock, hh.1]) hh.2.1 hh.2.2.1 hh.2.2.2 (fun k _ hk => (setBlock_other (fun e => hk (by rw [e]; rfl))).trans (by rw [hh.1])) ?_ (fun k hk => .inl hk)
    exact mapR_set (o' := .mapIter (some b) since (seen ++ [e.born]).toArray c) hr1
theorem JL_entry {x : Operand} {r b since c : Nat} {seen : List Nat} {es : List MapEntry} {e : MapEntry} (i j : Nat) (hx : Ev fr x (.pointer (some ⟨r, 0, none⟩))) (hi : Nth σ i (mapR b es c)) (hj : Nth σ j (iterR r b since (seen ++ [e.born]) c))
    (he : e ∈ es) (hn : (es.map (·.born)).Nodup) (k : JL P ops Q w0 σ φ rest (upd fr d (.tuple #[e.key, e.val]))) : JL P ops Q w0 σ φ (⟨some d, .entry x, ty, pos, aft, none⟩ :: rest) fr :=
  JL_pureSt _ (fun w s => by
    have h2 : w.heap[r]? = some (.mapIter (some b) since (seen.toArray.push e.born) c) := by
      have h : w.heap[r]? = some (.mapIter (some b) since (seen ++ [e.born]).toArray c) := s.own _ hj.mem
      rw [h]; simp
    simp [execOp, hx.eq, run_entry_at w r b since seen.toArray es.toArray c e h2 (s.own _ hi.mem) he hn]) k
theorem JL_delete {α : Type} {ek : α → Value} {t kt et : TypeId} {x y : Operand} {b c : Nat} {a : α} {es : List MapEntry} (i : Nat) (ht : P.underlying t = some (.map kt et)) (K : KeyT P kt ek) (hx : Ev fr x (.map (some b))) (hy : Ev fr y (ek a)) (hσ : Nth σ i (mapR b es c))
    (hes : ∀ e ∈ es, ∃ a, e.key = ek a) (hex : ∃ e ∈ es, e.key = ek a)
    (k : ∀ j e, es[j]? = some e → e.key = ek a → JL P ops Q w0 (updL σ i (mapR b (es.eraseIdx j) c)) φ rest fr) :
    JL P ops Q w0 σ φ (⟨none, .call { callee := .builtin .delete, args := #[x, y], argTypes := #[t, kt] }, ty, pos, aft, none⟩ :: rest) fr := by
  intro w s
  have hb : w.heap[b]? = some (.map es.toArray c) := s.own _ hσ.mem
  rcases K.find w a es hes with ⟨_, h2⟩ | ⟨j, e, h1, h2, h3⟩
  · obtain ⟨e, he, hk⟩ := hex
    exact absurd hk (h2 e he)
  · refine wpList_runV rfl rfl (w' := ChangeMaps.setBlock w b (.map (es.eraseIdx j).toArray c)) (v := .tuple #[]) ?_ (k j e h2 h3 _ (s.setMap _ _ hσ))
    simp [execOp, resolve, invoke, builtin, Builtin.delete_, hx.eq, hy.eq, run_underlying ht, MapKept.run_getObj_map hb, K.check, h1, MapKept.run_setObj_map _ hb, Result.andThen, ChangeMaps.setBlock]
end
end Go.Fw

/- Cells of lists whose elements have the same number of cells each; slices of a region's own. -/
namespace Go.Fw
open Go Go.RowKit
section
variable {α : Type} (f : α → List Value)
def fcl (l : List α) : List Value := l.flatMap f
variable {f}
theorem fcl_cons (x : α) (l : List α) : fcl f (x :: l) = f x ++ fcl f l := rfl
theorem fcl_app (l m : List α) : fcl f (l ++ m) = fcl f l ++ fcl f m := by unfold fcl; rw [List.flatMap_append]
theorem fcl_snoc (l : List α) (x : α) : fcl f l ++ f x = fcl f (l ++ [x]) := by rw [fcl_app]; simp [fcl]
variable {sz : Nat} (hf : ∀ x, (f x).length = sz)
include hf
theorem fcl_len : ∀ l : List α, (fcl f l).length = l.length * sz
  | [] => by simp [fcl]
  | x :: l => by rw [fcl_cons, List.length_append, fcl_len l, hf, List.length_cons, Nat.add_mul, Nat.one_mul, Nat.add_comm]
theorem fcl_get : ∀ {l : List α} {j : Nat} {x : α}, l[j]? = some x → ∀ m, m < sz → (fcl f l)[j * sz + m]? = (f x)[m]?
  | [], _, _, h, _, _ => by simp at h
  | y :: l, 0, x, h, m, hm => by
    simp at h
    subst h
    rw [fcl_cons, Nat.zero_mul, Nat.zero_add, List.getElem?_append_left (by rw [hf]; exact hm)]
  | y :: l, j + 1, x, h, m, hm => by
    rw [fcl_cons, List.getElem?_append_right (by rw [hf, Nat.add_mul]; omega), hf, show (j + 1) * sz + m - sz = j * sz + m from by rw [Nat.add_mul]; omega]
    exact fcl_get (by simpa using h) m hm
theorem fcl_take : ∀ (l : List α) (k : Nat), (fcl f l).take (k * sz) = fcl f (l.take k)
  | l, 0 => by simp [fcl]
  | [], k + 1 => by simp [fcl]
  | x :: l, k + 1 => by
    rw [fcl_cons, List.take_succ_cons, fcl_cons, List.take_append, List.take_of_length_le (by rw [hf, Nat.add_mul]; omega), hf, show (k + 1) * sz - sz = k * sz from by rw [Nat.add_mul]; omega, fcl_take l k]
theorem fcl_drop : ∀ (l : List α) (k : Nat), (fcl f l).drop (k * sz) = fcl f (l.drop k)
  | l, 0 => by simp
  | [], k + 1 => by simp [fcl]
  | x :: l, k + 1 => by
    rw [fcl_cons, List.drop_succ_cons, List.drop_append, List.drop_of_length_le (by rw [hf, Nat.add_mul]; omega), hf, show (k + 1) * sz - sz = k * sz from by rw [Nat.add_mul]; omega, List.nil_append, fcl_drop l k]
omit hf in
theorem allOne_fcl (h : ∀ x, AllOne (f x)) (l : List α) : AllOne (fcl f l) := by
  intro v hv
  unfold fcl at hv
  obtain ⟨x, _, hx⟩ := List.mem_flatMap.1 hv
  exact h x v hx
theorem fcl_getA {z : α} {l : List α} {j : Nat} (h : j < l.length) (m : Nat) (v : Value) (hv : (f (l.getD j z))[m]? = some v) : (fcl f l)[j * sz + m]? = some v := by
  have hm : m < sz := by have := (List.getElem?_eq_some_iff.1 hv).1; rwa [hf] at this
  have e : l[j]? = some (l.getD j z) := by rw [List.getD_eq_getElem?_getD, List.getElem?_eq_getElem h]; rfl
  rw [fcl_get hf e m hm, hv]
theorem fclTake {X : Nat → Prop} {w : World} {ad : Option Addr} {l : List α} (k : Nat) (h : (vCells ad (fcl f l)).holds X w) : (vCells ad (fcl f (l.take k))).holds X w := by
  intro j u hj
  rw [← fcl_take hf, List.getElem?_take] at hj
  split at hj
  · exact h j u hj
  · cases hj
theorem fclDrop {X : Nat → Prop} {w : World} {ad : Option Addr} {l : List α} (c k : Nat) (hc : l.length ≤ c) (h : (vCells ad (fcl f l)).holds X w) : (vCells (subAd ad c k sz) (fcl f (l.drop k))).holds X w := by
  intro j u hj
  rw [← fcl_drop hf, List.getElem?_drop] at hj
  obtain ⟨b, o, he, hX, hcell⟩ := h (k * sz + j) u hj
  have hlt := (List.getElem?_eq_some_iff.1 hj).1
  rw [fcl_len hf] at hlt
  subst he
  unfold subAd
  split
  · rename_i e
    subst e
    have : l.length * sz ≤ c * sz := Nat.mul_le_mul_right _ hc
    have : c * sz + j < c * sz := by omega
    omega
  · exact ⟨b, o + k * sz, by simp [Addr.add], hX, by rw [Nat.add_assoc]; exact hcell⟩
end
theorem nilF {α : Type} {f : α → List Value} {w : World} {X : Nat → Prop} : (vCells none (fcl f [])).holds X w := by
  intro j u hj; simp [fcl] at hj
/-- A slice of the region's own. -/
def ownC (E : TypeId) (sz n : Nat) (cs : List Value) : List Value → Value → Res → Prop := fun _ v r => ∃ ad cap, v = .slice ad n cap ∧ (n ≤ cap ∧ cap ≤ 9223372036854775807) ∧ r = osl ad n cap E sz cs
theorem ownC_mk {E : TypeId} {sz n cap : Nat} {cs : List Value} {l : List Value} {ad : Option Addr} (h : n ≤ cap ∧ cap ≤ 9223372036854775807) : ownC E sz n cs l (.slice ad n cap) (osl ad n cap E sz cs) := ⟨ad, cap, rfl, h, rfl⟩
end Go.Fw
