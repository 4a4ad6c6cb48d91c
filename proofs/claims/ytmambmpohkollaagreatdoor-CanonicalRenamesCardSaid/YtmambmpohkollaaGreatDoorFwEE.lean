/- The program logic: calls beside other resources: of functions that are handed none and hand back own ones; of functions that are handed the last ones. -/
import Derived.Test.YtmambmpohkollaaGreatDoorFwXY
import Derived.Test.YtmambmpohkollaaGreatDoorFwQS
import Derived.Test.YtmambmpohkollaaGreatDoorFwTW
import Derived.Test.YtmambmpohkollaaGreatDoorFwA
namespace Go.Fw
open Go Go.RowKit
section
variable {P : Program} {Q : Exit → Act → World → Prop} {w0 : Ctx} {σ σ1 : List Res} {φ : List (Bool × VP)} {fr : Fr} {ops : Array Oper} {rest : List Oper}
  {d : Nat} {ty : TypeId} {pos : String} {aft : Array Edge}
/-- A call that is handed no own resource, beside whatever there is: what it hands back is put last. -/
theorem JL_callO0 {f : FuncId} {x : Operand} {xs : List Operand} {ts : Array TypeId} {vs : List Value} {φin : List VP} {Post : Value → List Res → List VP → Prop} (hin : AsksO w0 σ φ φin) (con : ConO P f vs [] φin Post) (hf : Ev fr x (.func (.func f) #[] #[])) (hc : callable P f = true) (ha : EvL fr xs vs)
    (k : ∀ v rout φo, Post v rout φo → JL P ops Q w0 (σ ++ rout) (mapB true φo φ) rest (upd fr d v)) :
    JL P ops Q w0 σ φ (⟨some d, .call { callee := .value x, args := xs.toArray, argTypes := ts }, ty, pos, aft, none⟩ :: rest) fr := by
  intro w s
  have hkey : ∀ q ∈ σ, ∀ j, q.key = some j → j < w.heap.size := fun q hq j hj => q.lt w (s.own q hq) j hj
  let c0 : Ctx := ⟨w, fun k => w0.Y k ∨ ∃ q ∈ σ, q.key = some k, fun k hk => by
    rcases hk with hk | ⟨q, hq, hk⟩
    · exact Nat.lt_of_lt_of_le (w0.hY k hk) s.base.size
    · exact hkey q hq k hk⟩
  have hs : St c0 w [] (φin.map (fun p => (true, p)) ++ [(false, vPure True), (true, vPure True)]) := by
    refine ⟨Below.refl _ _, fun q hq => (by cases hq), fun q hq => (by cases hq), List.Pairwise.nil, fun p hp => ?_⟩
    rcases List.mem_append.1 hp with hp | hp
    · obtain ⟨q, hq, rfl⟩ := List.mem_map.1 hp
      refine q.mono _ _ w w (hin w s q hq) (Nat.le_refl _) (fun _ _ _ => rfl) fun k _ hX => ?_
      rcases hX with ⟨q', hq', _⟩ | ⟨_, hY | hK⟩
      · cases hq'
      · exact .inr ⟨rfl, hY⟩
      · exact .inl hK
    · simp only [List.mem_cons, List.not_mem_nil, or_false] at hp
      rcases hp with rfl | rfl <;> exact trivial
  refine wpList_call hf hc ha (con c0 _ _ w hs) ?_
  rintro e w' ⟨v, rout, φo, rfl, hP, s'⟩
  have hb : Below w.heap.size w w' := s'.base
  have hfr : ∀ q ∈ rout, ∀ j, q.key = some j → w.heap.size ≤ j := s'.fresh
  refine ⟨v, rfl, k v rout φo hP w' ⟨s.base.trans (hb.mono s.base.size), fun q hq => ?_, fun q hq j hj => ?_, ?_, fun p hp => ?_⟩⟩
  · rcases List.mem_append.1 hq with hq | hq
    · exact q.mono w w' (s.own q hq) fun j hj => hb.block j (hkey q hq j hj)
    · exact s'.own q hq
  · rcases List.mem_append.1 hq with hq | hq
    · exact s.fresh q hq j hj
    · exact Nat.le_trans s.base.size (hfr q hq j hj)
  · refine List.pairwise_append.2 ⟨s.dist, s'.dist, fun q hq r hr j hj hj' => ?_⟩
    have := hkey q hq j hj
    have := hfr r hr j hj'
    omega
  · rw [mapB_eq] at hp
    rcases List.mem_append.1 hp with hp | hp
    · obtain ⟨q, hq, rfl⟩ := List.mem_map.1 hp
      refine q.mono _ _ w' w' (s'.views (true, q) (List.mem_append_left _ (List.mem_map.2 ⟨q, hq, rfl⟩))) (Nat.le_refl _) (fun _ _ _ => rfl) fun k _ hX => ?_
      rcases hX with ⟨q', hq', hk⟩ | ⟨_, hY⟩
      · rcases List.mem_append.1 hq' with hq' | hq'
        · exact .inr ⟨rfl, .inr ⟨q', hq', hk⟩⟩
        · exact .inl ⟨q', hq', hk⟩
      · exact .inr ⟨rfl, .inl hY⟩
    · refine p.2.mono _ _ w w' (s.views p hp) hb.size (fun j hj _ => hb.block j hj) fun j hj hX => ?_
      rcases hX with ⟨q', hq', hk⟩ | hY
      · rcases List.mem_append.1 hq' with hq' | hq'
        · exact .inl ⟨q', hq', hk⟩
        · have := hfr q' hq' j hk; omega
      · exact .inr hY
/-- The other resources, as a view. -/
def vFrameL (σ : List Res) : VP := ⟨fun X w => ∀ s ∈ σ, s.holds w ∧ ∀ k, s.key = some k → ¬ X k, fun _ _ w w' h _ hb hx s hs => by
  obtain ⟨h1, h2⟩ := h s hs
  exact ⟨s.mono w w' h1 fun k hk => hb k (s.lt w h1 k hk) (h2 k hk), fun k hk hX => h2 k hk (hx k (s.lt w h1 k hk) hX)⟩⟩
/-- A call that is handed the last own resources, and no data; what data it hands back is not looked at. -/
theorem JL_callOL {f : FuncId} {x : Operand} {xs : List Operand} {ts : Array TypeId} {vs : List Value} {rin : List Res} {Post : Value → List Res → List VP → Prop} (con : ConO P f vs rin [] Post)
    (hf : Ev fr x (.func (.func f) #[] #[])) (hc : callable P f = true) (ha : EvL fr xs vs)
    (k : ∀ v rout φo, Post v rout φo → JL P ops Q w0 (σ1 ++ rout) φ rest (upd fr d v)) :
    JL P ops Q w0 (σ1 ++ rin) φ (⟨some d, .call { callee := .value x, args := xs.toArray, argTypes := ts }, ty, pos, aft, none⟩ :: rest) fr := by
  intro w s
  let K : Nat → Prop := fun k => ∃ q ∈ σ1, q.key = some k
  obtain ⟨d1, d2, d3⟩ := List.pairwise_append.1 s.dist
  have hsub : ∀ b k, (Xof w0 rin b k ∨ K k) → Xof w0 (σ1 ++ rin) b k := by
    rintro b k ((⟨q, hq, hk⟩ | hY) | ⟨q, hq, hk⟩)
    · exact .inl ⟨q, List.mem_append_right _ hq, hk⟩
    · exact .inr hY
    · exact .inl ⟨q, List.mem_append_left _ hq, hk⟩
  have hs : St w0 w rin (([] : List VP).map (fun p => (true, p)) ++ [(false, vAnd (vFrameL σ1) (vList ((φ.filter (fun q => !q.1)).map (fun q => vUn K q.2)))), (true, vList ((φ.filter (fun q => q.1)).map (fun q => vUn K q.2)))]) := by
    refine ⟨s.base, fun q hq => s.own q (List.mem_append_right _ hq), fun q hq => s.fresh q (List.mem_append_right _ hq), d2, fun p hp => ?_⟩
    simp only [List.map_nil, List.nil_append, List.mem_cons, List.not_mem_nil, or_false] at hp
    rcases hp with rfl | rfl
    · refine ⟨fun q hq => ⟨s.own q (List.mem_append_left _ hq), fun k hk hX => ?_⟩, fun p hp => ?_⟩
      · rcases hX with ⟨q', hq', hk'⟩ | ⟨h, _⟩
        · exact d3 q hq q' hq' k hk hk'
        · cases h
      · obtain ⟨⟨b, q⟩, hq, rfl⟩ := List.mem_map.1 hp
        obtain ⟨h1, h2⟩ := List.mem_filter.1 hq
        cases b with
        | true => simp at h2
        | false => exact q.mono _ _ w w (s.views _ h1) (Nat.le_refl _) (fun _ _ _ => rfl) fun k _ h => hsub false k h
    · intro p hp
      obtain ⟨⟨b, q⟩, hq, rfl⟩ := List.mem_map.1 hp
      obtain ⟨h1, h2⟩ := List.mem_filter.1 hq
      cases b with
      | false => simp at h2
      | true => exact q.mono _ _ w w (s.views _ h1) (Nat.le_refl _) (fun _ _ _ => rfl) fun k _ h => hsub true k h
  refine wpList_call hf hc ha (con w0 _ _ w hs) ?_
  rintro e w' ⟨v, rout, φo, rfl, hPo, s'⟩
  have v0 := s'.views (false, vAnd (vFrameL σ1) (vList ((φ.filter (fun q => !q.1)).map (fun q => vUn K q.2)))) (List.mem_append_right _ List.mem_cons_self)
  have v1 := s'.views (true, vList ((φ.filter (fun q => q.1)).map (fun q => vUn K q.2))) (List.mem_append_right _ (List.mem_cons_of_mem _ List.mem_cons_self))
  have hfr : ∀ q ∈ σ1, q.holds w' ∧ ∀ k, q.key = some k → ¬ Xof w0 rout false k := v0.1
  have hsub2 : ∀ b k, Xof w0 (σ1 ++ rout) b k → Xof w0 rout b k ∨ K k := by
    rintro b k (⟨q, hq, hk⟩ | hY)
    · rcases List.mem_append.1 hq with hq | hq
      · exact .inr ⟨q, hq, hk⟩
      · exact .inl (.inl ⟨q, hq, hk⟩)
    · exact .inl (.inr hY)
  refine ⟨v, rfl, k v rout φo hPo w' ⟨s'.base, fun q hq => ?_, fun q hq j hj => ?_, ?_, fun p hp => ?_⟩⟩
  · rcases List.mem_append.1 hq with hq | hq
    · exact (hfr q hq).1
    · exact s'.own q hq
  · rcases List.mem_append.1 hq with hq | hq
    · exact s.fresh q (List.mem_append_left _ hq) j hj
    · exact s'.fresh q hq j hj
  · refine List.pairwise_append.2 ⟨d1, s'.dist, fun q hq r hr j hj hj' => ?_⟩
    exact (hfr q hq).2 j hj (.inl ⟨r, hr, hj'⟩)
  · obtain ⟨b, q⟩ := p
    cases b with
    | false =>
      have h0 : (vUn K q).holds (Xof w0 rout false) w' := v0.2 _ (List.mem_map.2 ⟨(false, q), List.mem_filter.2 ⟨hp, rfl⟩, rfl⟩)
      exact q.mono _ _ w' w' h0 (Nat.le_refl _) (fun _ _ _ => rfl) fun k _ h => hsub2 false k h
    | true =>
      have h0 : (vUn K q).holds (Xof w0 rout true) w' := v1 _ (List.mem_map.2 ⟨(true, q), List.mem_filter.2 ⟨hp, rfl⟩, rfl⟩)
      exact q.mono _ _ w' w' h0 (Nat.le_refl _) (fun _ _ _ => rfl) fun k _ h => hsub2 true k h
theorem JL_eqlPtr {t t' : TypeId} {x y : Operand} {p : Option Addr} (hu : P.underlying t = some (.pointer (P.pointee t))) (hx : Ev fr x (.pointer p)) (hy : Ev fr y (.pointer none))
    (k : JL P ops Q w0 σ φ rest (upd fr d (.bool p.isNone))) : JL P ops Q w0 σ φ (⟨some d, .binOp .eql t x y t', ty, pos, aft, none⟩ :: rest) fr :=
  JL_pure _ (fun w => by simp only [execOp, hx.eq, hy.eq, eqGuard_at_pointer, Sem.run_bind, Sem.run_pure, run_eql_pointer_nil w t p hu, Result.andThen_ok]) k
theorem JL_neqPtr {t t' : TypeId} {x y : Operand} {p : Option Addr} (hu : P.underlying t = some (.pointer (P.pointee t))) (hx : Ev fr x (.pointer p)) (hy : Ev fr y (.pointer none))
    (k : JL P ops Q w0 σ φ rest (upd fr d (.bool (!p.isNone)))) : JL P ops Q w0 σ φ (⟨some d, .binOp .neq t x y t', ty, pos, aft, none⟩ :: rest) fr :=
  JL_pure _ (fun w => by simp only [execOp, hx.eq, hy.eq, eqGuard_at_pointer, Sem.run_bind, Sem.run_pure, run_neq_pointer_nil w t p hu, Result.andThen_ok]) k
end
end Go.Fw

/- The program logic: own resources in another order; contracts of functions whose result shares memory, where nothing but the answer matters. -/
namespace Go.Fw
open Go Go.RowKit
section
variable {P : Program} {Q : Exit → Act → World → Prop} {w0 : Ctx} {σ σ' : List Res} {φ : List (Bool × VP)} {fr : Fr} {ops : Array Oper} {rest : List Oper}
/-- The first k resources are put last. -/
theorem JL_rot (k : Nat) (h : JL P ops Q w0 (σ.drop k ++ σ.take k) φ rest fr) : JL P ops Q w0 σ φ rest fr :=
  JL_conv (fun _ s => s.perm (by
    have := List.perm_append_comm (l₁ := σ.drop k) (l₂ := σ.take k)
    rwa [List.take_append_drop] at this)) h
theorem JC_rot {c : Code} (k : Nat) (h : JC P c Q w0 (σ.drop k ++ σ.take k) φ fr) : JC P c Q w0 σ φ fr :=
  JC_conv (fun _ s => s.perm (by
    have := List.perm_append_comm (l₁ := σ.drop k) (l₂ := σ.take k)
    rwa [List.take_append_drop] at this)) h
theorem JE_rot {e : Exit} (k : Nat) (h : JE Q e w0 (σ.drop k ++ σ.take k) φ fr) : JE Q e w0 σ φ fr :=
  JE_conv (fun _ s => s.perm (by
    have := List.perm_append_comm (l₁ := σ.drop k) (l₂ := σ.take k)
    rwa [List.take_append_drop] at this)) h
theorem ConA.conF {f : FuncId} {args : List Value} {φin : List VP} {Post : Value → List VP → Prop} (h : ConA P f args φin Post) (h0 : ∀ v φo, Post v φo → φo = []) : ConF P f args φin Post := by
  intro w hin
  refine (h w (fun _ => False) (fun _ h => h.elim) hin).mono ?_
  rintro e w' ⟨v, φo, rfl, hP, hb, hv⟩
  exact ⟨v, φo, rfl, hP, hb, fun p hp => by rw [h0 v φo hP] at hp; cases hp⟩
def swapAt {α : Type} : Nat → List α → List α
  | 0, a :: b :: l => b :: a :: l
  | i + 1, a :: l => a :: swapAt i l
  | _, l => l
theorem swapAt_perm {α : Type} : ∀ (i : Nat) (l : List α), (swapAt i l).Perm l
  | 0, [] => .refl _
  | 0, [_] => .refl _
  | 0, _ :: _ :: _ => .swap _ _ _
  | _ + 1, [] => .refl _
  | i + 1, a :: l => (swapAt_perm i l).cons a
theorem JL_swap (i : Nat) (h : JL P ops Q w0 (swapAt i σ) φ rest fr) : JL P ops Q w0 σ φ rest fr := JL_conv (fun _ s => s.perm (swapAt_perm i σ)) h
theorem JE_swap {e : Exit} (i : Nat) (h : JE Q e w0 (swapAt i σ) φ fr) : JE Q e w0 σ φ fr := JE_conv (fun _ s => s.perm (swapAt_perm i σ)) h
variable {d : Nat} {ty : TypeId} {pos : String} {aft : Array Edge}
/-- A call that is handed no own resource, and reads whatever there is; what data it hands back is not looked at. -/
theorem JL_callON {f : FuncId} {x : Operand} {xs : List Operand} {ts : Array TypeId} {vs : List Value} {φin : List VP} {Post : Value → List Res → List VP → Prop} (hin : Asks w0 σ φ φin) (con : ConO P f vs [] φin Post) (hf : Ev fr x (.func (.func f) #[] #[])) (hc : callable P f = true) (ha : EvL fr xs vs)
    (k : ∀ v rout φo, Post v rout φo → JL P ops Q w0 (σ ++ rout) φ rest (upd fr d v)) :
    JL P ops Q w0 σ φ (⟨some d, .call { callee := .value x, args := xs.toArray, argTypes := ts }, ty, pos, aft, none⟩ :: rest) fr := by
  intro w s
  have hkey : ∀ q ∈ σ, ∀ j, q.key = some j → j < w.heap.size := fun q hq j hj => q.lt w (s.own q hq) j hj
  let c0 : Ctx := ⟨w, fun _ => False, fun _ h => h.elim⟩
  have hs : St c0 w [] (φin.map (fun p => (true, p)) ++ [(false, vPure True), (true, vPure True)]) := by
    refine ⟨Below.refl _ _, fun q hq => (by cases hq), fun q hq => (by cases hq), List.Pairwise.nil, fun p hp => ?_⟩
    rcases List.mem_append.1 hp with hp | hp
    · obtain ⟨q, hq, rfl⟩ := List.mem_map.1 hp
      refine q.mono _ _ w w (hin w s q hq) (Nat.le_refl _) (fun _ _ _ => rfl) fun k _ hX => ?_
      rcases hX with ⟨q', hq', _⟩ | ⟨_, hY⟩
      · cases hq'
      · exact hY.elim
    · simp only [List.mem_cons, List.not_mem_nil, or_false] at hp
      rcases hp with rfl | rfl <;> exact trivial
  refine wpList_call hf hc ha (con c0 _ _ w hs) ?_
  rintro e w' ⟨v, rout, φo, rfl, hP, s'⟩
  have hb : Below w.heap.size w w' := s'.base
  have hfr : ∀ q ∈ rout, ∀ j, q.key = some j → w.heap.size ≤ j := s'.fresh
  refine ⟨v, rfl, k v rout φo hP w' ⟨s.base.trans (hb.mono s.base.size), fun q hq => ?_, fun q hq j hj => ?_, ?_, fun p hp => ?_⟩⟩
  · rcases List.mem_append.1 hq with hq | hq
    · exact q.mono w w' (s.own q hq) fun j hj => hb.block j (hkey q hq j hj)
    · exact s'.own q hq
  · rcases List.mem_append.1 hq with hq | hq
    · exact s.fresh q hq j hj
    · exact Nat.le_trans s.base.size (hfr q hq j hj)
  · refine List.pairwise_append.2 ⟨s.dist, s'.dist, fun q hq r hr j hj hj' => ?_⟩
    have := hkey q hq j hj
    have := hfr r hr j hj'
    omega
  · refine p.2.mono _ _ w w' (s.views p hp) hb.size (fun j hj _ => hb.block j hj) fun j hj hX => ?_
    rcases hX with ⟨q', hq', hk⟩ | hY
    · rcases List.mem_append.1 hq' with hq' | hq'
      · exact .inl ⟨q', hq', hk⟩
      · have := hfr q' hq' j hk; omega
    · exact .inr hY
end
end Go.Fw

/- The program logic: a call of a function value with captured own boxes: it takes all own resources. -/
namespace Go.Fw
open Go Go.RowKit
section
variable {P : Program} {Q : Exit → Act → World → Prop} {w0 : Ctx} {σ : List Res} {φ : List (Bool × VP)} {fr : Fr} {ops : Array Oper} {rest : List Oper}
  {d : Nat} {ty : TypeId} {pos : String} {aft : Array Edge}
theorem JL_callOD {f : FuncId} {x : Operand} {xs : List Operand} {ts : Array TypeId} {vs caps : List Value} {φin : List VP} {Post : Value → List Res → List VP → Prop} (hin : AsksO w0 σ φ φin) (con : ConO P f (vs ++ caps) σ φin Post) (hf : Ev fr x (.func (.func f) #[] caps.toArray)) (hc : callable P f = true) (ha : EvL fr xs vs)
    (k : ∀ v rout φo, Post v rout φo → JL P ops Q w0 rout (mapB true φo φ) rest (upd fr d v)) :
    JL P ops Q w0 σ φ (⟨some d, .call { callee := .value x, args := xs.toArray, argTypes := ts }, ty, pos, aft, none⟩ :: rest) fr := by
  intro w s
  have hs : St w0 w σ (φin.map (fun p => (true, p)) ++ [(false, vList ((φ.filter (fun q => !q.1)).map (·.2))), (true, vList ((φ.filter (fun q => q.1)).map (·.2)))]) := by
    refine ⟨s.base, s.own, s.fresh, s.dist, fun p hp => ?_⟩
    rcases List.mem_append.1 hp with hp | hp
    · obtain ⟨q, hq, rfl⟩ := List.mem_map.1 hp; exact hin w s q hq
    · simp only [List.mem_cons, List.not_mem_nil, or_false] at hp
      rcases hp with rfl | rfl
      · intro p hp
        obtain ⟨⟨b, q⟩, hq, rfl⟩ := List.mem_map.1 hp
        obtain ⟨h1, h2⟩ := List.mem_filter.1 hq
        cases b with
        | false => exact s.views _ h1
        | true => simp at h2
      · intro p hp
        obtain ⟨⟨b, q⟩, hq, rfl⟩ := List.mem_map.1 hp
        obtain ⟨h1, h2⟩ := List.mem_filter.1 hq
        cases b with
        | true => exact s.views _ h1
        | false => simp at h2
  have base : wpList P ops Q (⟨some d, .call { callee := .value x, args := xs.toArray, argTypes := ts }, ty, pos, aft, none⟩ :: rest) (act fr) w := by
    refine wpList_plain rfl fun K hK => ?_
    unfold Oper.wp
    rw [act_eval_fun, exec_callD hf hc ha.eq]
    refine (con w0 _ _ w hs).mono ?_
    rintro e w' ⟨v, rout, φo, rfl, hP, s'⟩
    show K ((act fr).put (some d) v) w'
    rw [act_put]
    refine hK _ _ (k v rout φo hP w' ⟨s'.base, s'.own, s'.fresh, s'.dist, fun p hp => ?_⟩)
    rw [mapB_eq] at hp
    rcases List.mem_append.1 hp with hp | hp
    · exact s'.views p (List.mem_append_left _ hp)
    · obtain ⟨b, q⟩ := p
      cases b with
      | false =>
        have := s'.views _ (List.mem_append_right _ List.mem_cons_self)
        exact this q (List.mem_map.2 ⟨_, List.mem_filter.2 ⟨hp, rfl⟩, rfl⟩)
      | true =>
        have := s'.views _ (List.mem_append_right _ (List.mem_cons_of_mem _ List.mem_cons_self))
        exact this q (List.mem_map.2 ⟨_, List.mem_filter.2 ⟨hp, rfl⟩, rfl⟩)
  exact base
end
end Go.Fw

/- The program logic: a call of a function value with captured own boxes that takes the last own resources only; the others lie beside it, and may be read by it. -/
namespace Go.Fw
open Go Go.RowKit
/-- Other resources, as a view. -/
def vRest (σ : List Res) : VP := ⟨fun X w => ∀ s ∈ σ, s.holds w ∧ ∀ k, s.key = some k → ¬ X k, fun _ _ w w' h _ hb hx s hs => by
  obtain ⟨h1, h2⟩ := h s hs
  exact ⟨s.mono w w' h1 fun k hk => hb k (s.lt w h1 k hk) (h2 k hk), fun k hk hX => h2 k hk (hx k (s.lt w h1 k hk) hX)⟩⟩
/-- A view that avoids further blocks. -/
def vUnL (K : Nat → Prop) (q : VP) : VP := ⟨fun X w => q.holds (fun k => X k ∨ K k) w, fun _ _ w w' h hs hb hx =>
  q.mono _ _ w w' h hs (fun k hk hn => hb k hk fun hX => hn (.inl hX)) fun k hk hX => hX.elim (fun h' => .inl (hx k hk h')) .inr⟩
section
variable {P : Program} {Q : Exit → Act → World → Prop} {w0 : Ctx} {σ1 σ2 : List Res} {φ : List (Bool × VP)} {fr : Fr} {ops : Array Oper} {rest : List Oper}
  {d : Nat} {ty : TypeId} {pos : String} {aft : Array Edge}
/-- What is asked of the state: views that avoid the resources that are handed over. -/
def AsksL (w0 : Ctx) (σ1 σ2 : List Res) (φ : List (Bool × VP)) (φin : List VP) : Prop := ∀ w, St w0 w (σ1 ++ σ2) φ → ∀ p ∈ φin, p.holds (Xof w0 σ2 false) w
theorem AsksL.nil : AsksL w0 σ1 σ2 φ [] := fun _ _ p hp => by cases hp
theorem AsksL.cons {p : VP} {ps : List VP} (h : ∀ w, St w0 w (σ1 ++ σ2) φ → p.holds (Xof w0 σ2 false) w) (h' : AsksL w0 σ1 σ2 φ ps) : AsksL w0 σ1 σ2 φ (p :: ps) := fun w s q hq => by
  rcases List.mem_cons.1 hq with rfl | hq
  · exact h w s
  · exact h' w s q hq
theorem asksL_mem {f : Bool} {p : VP} (h : (f, p) ∈ φ) : ∀ w, St w0 w (σ1 ++ σ2) φ → p.holds (Xof w0 σ2 false) w := fun w s =>
  p.mono _ _ w w (s.views _ h) (Nat.le_refl _) (fun _ _ _ => rfl) fun _ _ hX => by
    rcases hX with ⟨r, hr, hk⟩ | ⟨h, _⟩
    · exact .inl ⟨r, List.mem_append_right _ hr, hk⟩
    · cases h
theorem asksL_own {ad : Option Addr} {n cap sz : Nat} {E : TypeId} {xs : List Value} (i : Nat) (h : Nth σ1 i (osl ad n cap E sz xs)) : ∀ w, St w0 w (σ1 ++ σ2) φ → (vCells ad xs).holds (Xof w0 σ2 false) w := fun w s => by
  have hm : osl ad n cap E sz xs ∈ σ1 := h.mem
  refine (vCells ad xs).mono _ _ w w (own_cells (s.own _ (List.mem_append_left _ hm))) (Nat.le_refl _) (fun _ _ _ => rfl) fun k _ hX => ?_
  intro e
  rcases hX with ⟨r, hr, hk⟩ | ⟨h, _⟩
  · refine (List.pairwise_append.1 s.dist).2.2 _ hm r hr k ?_ hk
    cases ad with
    | none => cases e
    | some a => exact e
  · cases h
theorem asksL_box {b : Nat} {T : TypeId} {cs : List Value} (i : Nat) (h : Nth σ1 i (box b T cs)) : ∀ w, St w0 w (σ1 ++ σ2) φ → (vCells (some ⟨b, 0, none⟩) cs).holds (Xof w0 σ2 false) w := fun w s => by
  have hm : box b T cs ∈ σ1 := h.mem
  refine fun j u hj => ⟨b, 0, rfl, fun hX => ?_, ?_⟩
  · rcases hX with ⟨r, hr, hk⟩ | ⟨h, _⟩
    · exact (List.pairwise_append.1 s.dist).2.2 _ hm r hr b rfl hk
    · cases h
  · have hb : w.heap[b]? = some (.cells cs.toArray T (0, 0)) := s.own _ (List.mem_append_left _ hm)
    unfold World.cell?
    simp only [hb, Nat.zero_add]
    simpa using hj
theorem AsksL.list {l : List VP} (h : AsksL w0 σ1 σ2 φ l) : ∀ w, St w0 w (σ1 ++ σ2) φ → (vList l).holds (Xof w0 σ2 false) w := fun w s p hp => h w s p hp
/-- The call itself, in whatever form it is entered. -/
theorem callQL {f : FuncId} {args : Array Value} {φin : List VP} {Post : Value → List Res → List VP → Prop} {K : Ending → World → Prop} {w : World} (s : St w0 w (σ1 ++ σ2) φ) (hin : AsksL w0 σ1 σ2 φ φin) (con : ConQ P f args.toList σ2 φin Post) (h0 : ∀ v rout φo, Post v rout φo → φo = [])
    (k : ∀ v rout w', Post v rout [] → St w0 w' (σ1 ++ rout) φ → K (.returned v) w') : Calls P f args w K := by
  let Ky : Nat → Prop := fun k => ∃ r ∈ σ1, r.key = some k
  have hs : St w0 w σ2 (φin.map (fun p => (false, p)) ++ [(false, vList (vRest σ1 :: (φ.filter (fun q => !q.1)).map (fun q => vUnL Ky q.2))), (true, vList ((φ.filter (fun q => q.1)).map (fun q => vUnL Ky q.2)))]) := by
    refine ⟨s.base, fun r hr => s.own r (List.mem_append_right _ hr), fun r hr => s.fresh r (List.mem_append_right _ hr), (List.pairwise_append.1 s.dist).2.1, fun p hp => ?_⟩
    have sub : ∀ (b : Bool) (q : VP), (b, q) ∈ φ → (vUnL Ky q).holds (Xof w0 σ2 b) w := fun b q hq => by
      refine q.mono _ _ w w (s.views _ hq) (Nat.le_refl _) (fun _ _ _ => rfl) fun k _ hX => ?_
      rcases hX with (⟨r, hr, hk⟩ | h) | ⟨r, hr, hk⟩
      · exact .inl ⟨r, List.mem_append_right _ hr, hk⟩
      · exact .inr h
      · exact .inl ⟨r, List.mem_append_left _ hr, hk⟩
    rcases List.mem_append.1 hp with hp | hp
    · obtain ⟨q, hq, rfl⟩ := List.mem_map.1 hp; exact hin w s q hq
    · simp only [List.mem_cons, List.not_mem_nil, or_false] at hp
      rcases hp with rfl | rfl
      · intro p hp
        rcases List.mem_cons.1 hp with rfl | hp
        · refine fun r hr => ⟨s.own r (List.mem_append_left _ hr), fun k hk hX => ?_⟩
          rcases hX with ⟨r', hr', hk'⟩ | ⟨h, _⟩
          · exact (List.pairwise_append.1 s.dist).2.2 r hr r' hr' k hk hk'
          · cases h
        · obtain ⟨⟨b, q⟩, hq, rfl⟩ := List.mem_map.1 hp
          obtain ⟨h1, h2⟩ := List.mem_filter.1 hq
          cases b with
          | false => exact sub _ _ h1
          | true => simp at h2
      · intro p hp
        obtain ⟨⟨b, q⟩, hq, rfl⟩ := List.mem_map.1 hp
        obtain ⟨h1, h2⟩ := List.mem_filter.1 hq
        cases b with
        | true => exact sub _ _ h1
        | false => simp at h2
  have hcall := con w0 _ _ w hs
  rw [show args.toList.toArray = args from by simp] at hcall
  refine hcall.mono ?_
  rintro e w' ⟨v, rout, φo, rfl, hP, s'⟩
  obtain rfl := h0 v rout φo hP
  have v0 := s'.views (false, _) List.mem_cons_self
  have v1 := s'.views (true, _) (List.mem_cons_of_mem _ List.mem_cons_self)
  have hr := v0 (vRest σ1) List.mem_cons_self
  refine k v rout w' hP ⟨s'.base, fun r hr' => ?_, fun r hr' k hk => ?_, ?_, fun p hp => ?_⟩
  · rcases List.mem_append.1 hr' with h | h
    · exact (hr r h).1
    · exact s'.own r h
  · rcases List.mem_append.1 hr' with h | h
    · exact s.fresh r (List.mem_append_left _ h) k hk
    · exact s'.fresh r h k hk
  · refine List.pairwise_append.2 ⟨(List.pairwise_append.1 s.dist).1, s'.dist, fun a ha b hb k hk hk' => ?_⟩
    exact (hr a ha).2 k hk (.inl ⟨b, hb, hk'⟩)
  · obtain ⟨b, q⟩ := p
    have fin : (vUnL Ky q).holds (Xof w0 rout b) w' → q.holds (Xof w0 (σ1 ++ rout) b) w' := fun h => by
      refine q.mono _ _ w' w' h (Nat.le_refl _) (fun _ _ _ => rfl) fun k _ hX => ?_
      rcases hX with ⟨r, hr, hk⟩ | h
      · rcases List.mem_append.1 hr with hr | hr
        · exact .inr ⟨r, hr, hk⟩
        · exact .inl (.inl ⟨r, hr, hk⟩)
      · exact .inl (.inr h)
    cases b with
    | false => exact fin (v0 _ (List.mem_cons_of_mem _ (List.mem_map.2 ⟨_, List.mem_filter.2 ⟨hp, rfl⟩, rfl⟩)))
    | true => exact fin (v1 _ (List.mem_map.2 ⟨_, List.mem_filter.2 ⟨hp, rfl⟩, rfl⟩))
theorem JL_callQL {f : FuncId} {x : Operand} {xs : List Operand} {ts : Array TypeId} {vs caps : List Value} {φin : List VP} {Post : Value → List Res → List VP → Prop} (hin : AsksL w0 σ1 σ2 φ φin) (con : ConQ P f (vs ++ caps) σ2 φin Post) (h0 : ∀ v rout φo, Post v rout φo → φo = []) (hf : Ev fr x (.func (.func f) #[] caps.toArray)) (hc : callable P f = true) (ha : EvL fr xs vs)
    (k : ∀ v rout, Post v rout [] → JL P ops Q w0 (σ1 ++ rout) φ rest (upd fr d v)) :
    JL P ops Q w0 (σ1 ++ σ2) φ (⟨some d, .call { callee := .value x, args := xs.toArray, argTypes := ts }, ty, pos, aft, none⟩ :: rest) fr := by
  intro w s
  have base : wpList P ops Q (⟨some d, .call { callee := .value x, args := xs.toArray, argTypes := ts }, ty, pos, aft, none⟩ :: rest) (act fr) w := by
    refine wpList_plain rfl fun K hK => ?_
    unfold Oper.wp
    rw [act_eval_fun, exec_callD hf hc ha.eq]
    refine callQL s hin con h0 fun v rout w' hP s' => ?_
    show K ((act fr).put (some d) v) w'
    rw [act_put]
    exact hK _ _ (k v rout hP w' s')
  exact base
/-- The same where the answer goes nowhere. -/
theorem JL_callQL0 {f : FuncId} {x : Operand} {xs : List Operand} {ts : Array TypeId} {vs caps : List Value} {φin : List VP} {Post : Value → List Res → List VP → Prop} (hin : AsksL w0 σ1 σ2 φ φin) (con : ConQ P f (vs ++ caps) σ2 φin Post) (h0 : ∀ v rout φo, Post v rout φo → φo = []) (hf : Ev fr x (.func (.func f) #[] caps.toArray)) (hc : callable P f = true) (ha : EvL fr xs vs)
    (k : ∀ v rout, Post v rout [] → JL P ops Q w0 (σ1 ++ rout) φ rest fr) :
    JL P ops Q w0 (σ1 ++ σ2) φ (⟨none, .call { callee := .value x, args := xs.toArray, argTypes := ts }, ty, pos, aft, none⟩ :: rest) fr := by
  intro w s
  have base : wpList P ops Q (⟨none, .call { callee := .value x, args := xs.toArray, argTypes := ts }, ty, pos, aft, none⟩ :: rest) (act fr) w := by
    refine wpList_plain rfl fun K hK => ?_
    unfold Oper.wp
    rw [act_eval_fun, exec_callD hf hc ha.eq]
    refine callQL s hin con h0 fun v rout w' hP s' => ?_
    exact hK _ _ (k v rout hP w' s')
  exact base
/-- The same of a function that is named. -/
theorem JL_callQLf {f : FuncId} {x : Operand} {xs : List Operand} {ts : Array TypeId} {vs : List Value} {φin : List VP} {Post : Value → List Res → List VP → Prop} (hin : AsksL w0 σ1 σ2 φ φin) (con : ConQ P f vs σ2 φin Post) (h0 : ∀ v rout φo, Post v rout φo → φo = []) (hf : Ev fr x (.func (.func f) #[] #[])) (hc : callable P f = true) (ha : EvL fr xs vs)
    (k : ∀ v rout, Post v rout [] → JL P ops Q w0 (σ1 ++ rout) φ rest (upd fr d v)) :
    JL P ops Q w0 (σ1 ++ σ2) φ (⟨some d, .call { callee := .value x, args := xs.toArray, argTypes := ts }, ty, pos, aft, none⟩ :: rest) fr := by
  intro w s
  have base : wpList P ops Q (⟨some d, .call { callee := .value x, args := xs.toArray, argTypes := ts }, ty, pos, aft, none⟩ :: rest) (act fr) w := by
    refine wpList_call hf hc ha (callQL (K := fun e w' => ∃ v, e = .returned v ∧ wpList P ops Q rest (act (upd fr d v)) w') s hin (by simpa using con) h0 fun v rout w' hP s' => ⟨v, rfl, k v rout hP w' s'⟩) ?_
    rintro e w' ⟨v, rfl, h⟩
    exact ⟨v, rfl, h⟩
  exact base
theorem ConQ.ofList {P : Program} {f : FuncId} {args : List Value} {rin : List Res} {ps l : List VP} {Post : Value → List Res → List VP → Prop} (h : ConQ P f args rin (ps ++ l) Post) : ConQ P f args rin (ps ++ [vList l]) Post := fun w0 p0 p1 w s => by
  have hv := s.views (false, vList l) (List.mem_append_left _ (List.mem_map.2 ⟨vList l, List.mem_append_right _ List.mem_cons_self, rfl⟩))
  refine h w0 p0 p1 w ⟨s.base, s.own, s.fresh, s.dist, fun p hp => ?_⟩
  rcases List.mem_append.1 hp with hp | hp
  · obtain ⟨q, hq, rfl⟩ := List.mem_map.1 hp
    rcases List.mem_append.1 hq with hq | hq
    · exact s.views (false, q) (List.mem_append_left _ (List.mem_map.2 ⟨q, List.mem_append_left _ hq, rfl⟩))
    · exact hv q hq
  · exact s.views p (List.mem_append_right _ hp)
theorem AsksQ.list {σ : List Res} {l : List VP} (h : AsksQ w0 σ φ l) : ∀ w, St w0 w σ φ → (vList l).holds (Xof w0 σ false) w := fun w s p hp => h w s p hp
theorem St.ownNil {σ : List Res} {w : World} {ad : Option Addr} {n cap sz : Nat} {E : TypeId} {xs : List Value} (s : St w0 w σ φ) (i : Nat) (h : Nth σ i (osl ad n cap E sz xs)) (ha : ad.isNone = true) : n = 0 := by
  have hh : (osl ad n cap E sz xs).holds w := s.own _ h.mem
  rcases hh.2 with ⟨_, hn⟩ | ⟨g, cap', cur, hv, _⟩
  · exact hn
  · simp only [Value.slice.injEq] at hv
    rw [hv.1] at ha; cases ha
variable {σ : List Res}
/-- A call that is handed no own resource, reads whatever there is, and hands back own resources and fresh data. -/
theorem JL_callQ0 {f : FuncId} {x : Operand} {xs : List Operand} {ts : Array TypeId} {vs : List Value} {φin : List VP} {Post : Value → List Res → List VP → Prop} (hin : Asks w0 σ φ φin) (con : ConQ P f vs [] φin Post) (hf : Ev fr x (.func (.func f) #[] #[])) (hc : callable P f = true) (ha : EvL fr xs vs)
    (k : ∀ v rout φo, Post v rout φo → JL P ops Q w0 (σ ++ rout) (mapB true φo φ) rest (upd fr d v)) :
    JL P ops Q w0 σ φ (⟨some d, .call { callee := .value x, args := xs.toArray, argTypes := ts }, ty, pos, aft, none⟩ :: rest) fr := by
  intro w s
  have hkey : ∀ q ∈ σ, ∀ j, q.key = some j → j < w.heap.size := fun q hq j hj => q.lt w (s.own q hq) j hj
  have hs : St (allOld w) w [] (φin.map (fun p => (false, p)) ++ [(false, vPure True), (true, vPure True)]) := by
    refine ⟨Below.refl _ _, fun q hq => (by cases hq), fun q hq => (by cases hq), List.Pairwise.nil, fun p hp => ?_⟩
    rcases List.mem_append.1 hp with hp | hp
    · obtain ⟨q, hq, rfl⟩ := List.mem_map.1 hp
      refine q.mono _ _ w w (hin w s q hq) (Nat.le_refl _) (fun _ _ _ => rfl) fun k _ hX => ?_
      rcases hX with ⟨q', hq', _⟩ | ⟨h, _⟩
      · cases hq'
      · cases h
    · simp only [List.mem_cons, List.not_mem_nil, or_false] at hp
      rcases hp with rfl | rfl <;> exact trivial
  refine wpList_call hf hc ha (con (allOld w) _ _ w hs) ?_
  rintro e w' ⟨v, rout, φo, rfl, hP, s'⟩
  have hb : Below w.heap.size w w' := s'.base
  have hfr : ∀ q ∈ rout, ∀ j, q.key = some j → w.heap.size ≤ j := s'.fresh
  refine ⟨v, rfl, k v rout φo hP w' ⟨s.base.trans (hb.mono s.base.size), fun q hq => ?_, fun q hq j hj => ?_, ?_, fun p hp => ?_⟩⟩
  · rcases List.mem_append.1 hq with hq | hq
    · exact q.mono w w' (s.own q hq) fun k hk => hb.block k (hkey q hq k hk)
    · exact s'.own q hq
  · rcases List.mem_append.1 hq with hq | hq
    · exact s.fresh q hq j hj
    · exact Nat.le_trans s.base.size (hfr q hq j hj)
  · refine List.pairwise_append.2 ⟨s.dist, s'.dist, fun a ha b hb k hk hk' => ?_⟩
    have h1 := hkey a ha k hk
    have h2 := hfr b hb k hk'
    omega
  · rw [mapB_eq] at hp
    rcases List.mem_append.1 hp with hp | hp
    · obtain ⟨q, hq, rfl⟩ := List.mem_map.1 hp
      have h1 := s'.views (true, q) (List.mem_append_left _ (List.mem_map.2 ⟨q, hq, rfl⟩))
      refine q.mono _ _ w' w' h1 (Nat.le_refl _) (fun _ _ _ => rfl) fun k _ hX => ?_
      rcases hX with ⟨r, hr, hk⟩ | ⟨_, hY⟩
      · rcases List.mem_append.1 hr with hr | hr
        · exact .inr ⟨rfl, hkey r hr k hk⟩
        · exact .inl ⟨r, hr, hk⟩
      · exact .inr ⟨rfl, Nat.lt_of_lt_of_le (w0.hY k hY) s.base.size⟩
    · refine p.2.mono _ _ w w' (s.views p hp) hb.size (fun k hk _ => hb.block k hk) fun k hk hX => ?_
      rcases hX with ⟨r, hr, hkk⟩ | hX
      · rcases List.mem_append.1 hr with hr | hr
        · exact .inl ⟨r, hr, hkk⟩
        · have := hfr r hr k hkk; omega
      · exact .inr hX
/-- What is handed back as own is read from then on. -/
theorem ConQ.toF {f : FuncId} {args : List Value} {φin : List VP} {Post : Value → List Res → List VP → Prop} {Post' : Value → List VP → Prop} (h : ConQ P f args [] φin Post)
    (h' : ∀ v rout φo, Post v rout φo → ∃ ad n c E sz xs, rout = [osl ad n c E sz xs] ∧ Post' v (vCells ad xs :: φo)) : ConF P f args φin Post' := by
  intro w hin
  have hs : St (allOld w) w [] (φin.map (fun p => (false, p)) ++ [(false, vPure True), (true, vPure True)]) := by
    refine ⟨Below.refl _ _, fun q hq => (by cases hq), fun q hq => (by cases hq), List.Pairwise.nil, fun p hp => ?_⟩
    rcases List.mem_append.1 hp with hp | hp
    · obtain ⟨q, hq, rfl⟩ := List.mem_map.1 hp
      refine q.mono _ _ w w (hin q hq) (Nat.le_refl _) (fun _ _ _ => rfl) fun k _ hX => ?_
      rcases hX with ⟨q', hq', _⟩ | ⟨h, _⟩
      · cases hq'
      · cases h
    · simp only [List.mem_cons, List.not_mem_nil, or_false] at hp
      rcases hp with rfl | rfl <;> exact trivial
  refine (h (allOld w) _ _ w hs).mono ?_
  rintro e w' ⟨v, rout, φo, rfl, hP, s'⟩
  obtain ⟨ad, n, c, E, sz, xs, rfl, hP'⟩ := h' v rout φo hP
  have s2 := s'.give 0 rfl
  refine ⟨v, _, rfl, hP', s'.base, fun p hp => ?_⟩
  have h3 : p.holds (Xof (allOld w) [] true) w' := by
    rcases List.mem_cons.1 hp with rfl | hp
    · exact s2.views _ List.mem_cons_self
    · exact s2.views (true, p) (List.mem_cons_of_mem _ (List.mem_append_left _ (List.mem_map.2 ⟨p, hp, rfl⟩)))
  exact p.mono _ _ w' w' h3 (Nat.le_refl _) (fun _ _ _ => rfl) fun k _ hX => .inr ⟨rfl, hX⟩
end
end Go.Fw

/- A region that draws its order, whose operations follow each other but for some that read what does not change: it is walked once, in the order in which it is written. -/
namespace Go.Fw
open Go Go.RowKit
/-- An operation that may stand anywhere: its place, its slot, its value, the slots (with what they hold) and the operations before it on whose values it leans. -/
structure VO where
  i : Nat
  d : Nat
  c : Value
  ks : List (Nat × Value)
  kg : List Nat
  vp : List Nat
instance : Inhabited VO := ⟨⟨0, 0, undef, [], [], []⟩⟩
def fixV (ps : List Nat) (V : List VO) (vals : Nat → Value) (p : Nat) : Value := bif ps.contains p then (V.getD p default).c else vals p
theorem LkL.of : ∀ (l : List Value) (t : Nat), LkL l t (lookL l t)
  | [], _ => rfl
  | _ :: _, 0 => rfl
  | _ :: l, t + 1 => LkL.of l t
theorem LkL.get {l : List Value} {t : Nat} {x : Value} (h : lookL l t = x) : LkL l t x := h ▸ LkL.of l t
theorem act_main (n : Nat) (b : List Value) (ds : List Nat) (vals : Nat → Value) (d : Nat) (x : Value) (hd : d ∉ ds) (hn : n ≤ b.length) : act (upd ⟨n, pends ds vals 0, b⟩ d x) = act ⟨n, pends ds vals 0, updV b d x⟩ := by
  unfold act upd
  congr 2
  apply List.map_congr_left
  intro t ht
  have ht : t < n := List.mem_range.1 ht
  show lkP ((d, x) :: pends ds vals 0) b t = lkP (pends ds vals 0) (updV b d x) t
  rw [lkP, lkP_pends, lkP_pends]
  by_cases h : d = t
  · subst h
    have hb : Nat.beq d d = true := Nat.beq_refl d
    rw [hb]
    have : ds.idxOf? d = none := by
      cases hx : ds.idxOf? d with
      | none => rfl
      | some j =>
        rw [List.idxOf?, List.findIdx?_eq_some_iff_getElem] at hx
        obtain ⟨hlt, h1, _⟩ := hx
        exact absurd (by have e : ds[j] = d := by simpa using h1
                         rw [← e]; exact List.getElem_mem hlt) hd
    rw [this]
    exact (lookL_updV_same b d x (by omega)).symm
  · have hb : Nat.beq d t = false := by
      cases hb : Nat.beq d t with
      | false => rfl
      | true => exact absurd (Nat.eq_of_beq_eq_true hb) h
    rw [hb]
    simp only [cond_false]
    cases ds.idxOf? t with
    | none => exact (lookL_updV_other b d t x h).symm
    | some j => rfl
def dstOf (l : List Oper) (k : Nat) : Nat := match l[k]? with
  | some o => o.dst.getD (1000000 + k)
  | none => 0
section
variable (P : Program) (l : List Oper) (Q : Exit → Act → World → Prop) (w0 : Ctx) (V : List VO) (D : List (Nat × Value)) (n : Nat)
abbrev VO.ds (V : List VO) : List Nat := V.map (·.d)
def DOk : List (Nat × Value) → Nat → Value → Prop
  | [], _, _ => True
  | (g, v) :: D, k, x => (bif Nat.beq g k then x = v else True) ∧ DOk D k x
/-- What stands behind an operation: what is to be shown of the others. -/
def NX (J : List Res → List (Bool × VP) → List Value → Prop) (k : Nat) (φ : List (Bool × VP)) (b : List Value) (fr : Fr) : Exit → Act → World → Prop :=
  fun e a w => e = .normal ∧ ∃ x σ' φ', a = act (upd fr (dstOf l k) x) ∧ DOk D k x ∧ St w0 w σ' φ' ∧ (∀ p ∈ φ, p ∈ φ') ∧ J σ' φ' (updV b (dstOf l k) x)
/-- What is to be shown of the operations in their order. -/
def JM : List (Nat × List Nat) → List Res → List (Bool × VP) → List Value → Prop
  | [], σ, φ, b => JL P l.toArray Q w0 σ φ [] ⟨n, pends (VO.ds V) (fun p => (V.getD p default).c) 0, b⟩
  | (k, ps) :: ms, σ, φ, b => ∀ vals : Nat → Value, JL P l.toArray (NX l w0 D (JM ms) k φ b ⟨n, pends (VO.ds V) (fixV ps V vals) 0, b⟩) w0 σ φ ((l.drop k).take 1) ⟨n, pends (VO.ds V) (fixV ps V vals) 0, b⟩
def NV (φ : List (Bool × VP)) (σ : List Res) (d : Nat) (c : Value) (fr : Fr) : Exit → Act → World → Prop := fun e a w => e = .normal ∧ a = act (upd fr d c) ∧ St w0 w σ φ
/-- What is to be shown of an operation that may stand anywhere. -/
def OV (φ : List (Bool × VP)) (v : VO) : Prop :=
  ∀ (σ : List Res) (φ' : List (Bool × VP)) (b : List Value) (vals : Nat → Value), (∀ p ∈ φ, p ∈ φ') → (∀ t x, (t, x) ∈ v.ks → LkL b t x) → (∀ g x, g ∈ v.kg → (g, x) ∈ D → LkL b (dstOf l g) x) →
    JL P l.toArray (NV w0 φ' σ v.d v.c ⟨n, pends (VO.ds V) (fixV v.vp V vals) 0, b⟩) w0 σ φ' ((l.drop v.i).take 1) ⟨n, pends (VO.ds V) (fixV v.vp V vals) 0, b⟩
end
theorem DOk.spec : ∀ {D : List (Nat × Value)} {k : Nat} {x : Value}, DOk D k x → ∀ v, (k, v) ∈ D → x = v
  | [], _, _, _, _, h => by cases h
  | (g, v0) :: D, k, x, h, v, hm => by
    rcases List.mem_cons.1 hm with e | hm
    · obtain ⟨rfl, rfl⟩ := Prod.mk.inj e
      have h1 := h.1
      rw [Nat.beq_refl] at h1; exact h1
    · exact DOk.spec h.2 v hm
theorem pends_congr : ∀ (ds : List Nat) (f g : Nat → Value) (k : Nat), (∀ j, j < ds.length → f (k + j) = g (k + j)) → pends ds f k = pends ds g k
  | [], _, _, _, _ => rfl
  | d :: ds, f, g, k, h => by
    rw [pends, pends, show f k = g k from h 0 (Nat.zero_lt_succ _), pends_congr ds f g (k + 1) fun j hj => by
      have := h (j + 1) (by simpa using hj)
      rwa [show k + (j + 1) = k + 1 + j from by omega] at this]
theorem fix_eq {V : List VO} {ps : List Nat} {vals : Nat → Value} (h : ∀ p v, p ∈ ps → V[p]? = some v → vals p = v.c) : pends (VO.ds V) (fixV ps V vals) 0 = pends (VO.ds V) vals 0 := by
  refine pends_congr _ _ _ _ fun j hj => ?_
  rw [Nat.zero_add]
  unfold fixV
  cases hc : ps.contains j with
  | false => rfl
  | true =>
    have hj' : j < V.length := by simpa using hj
    have e : V[j]? = some V[j] := List.getElem?_eq_getElem hj'
    show (V.getD j default).c = vals j
    rw [h j V[j] (by simpa using hc) e, List.getD_eq_getElem?_getD, e]; rfl
def chainOk (l : List Oper) : List Nat → Bool
  | [] => true
  | [_] => true
  | k :: k' :: ms => (directs l k').contains k && chainOk l (k' :: ms)
def predOk (l : List Oper) (V : List VO) (i : Nat) (ps : List Nat) : Bool := ps.all fun p => match V[p]? with | some v => (directs l i).contains v.i | none => true
theorem predOk_spec {l : List Oper} {V : List VO} {i : Nat} {ps : List Nat} (h : predOk l V i ps = true) : ∀ p v, p ∈ ps → V[p]? = some v → v.i ∈ directs l i := fun p v hp hv => by
  have := List.all_eq_true.1 h p hp
  rw [hv] at this
  simpa using this
def linOk (l : List Oper) (V : List VO) (D : List (Nat × Value)) (ms : List Nat) : Bool :=
  ((List.range l.length).all fun i => ms.contains i || (V.map (·.i)).contains i) &&
  ((List.range l.length).all fun i => (directs l i).all fun j => j < i) &&
  (V.map (·.i)).Nodup && (V.map (·.d)).Nodup && ms.Nodup && (V.all fun (v : VO) => !ms.contains v.i) && chainOk l ms &&
  (V.all fun (v : VO) => v.i < l.length && dstOf l v.i == v.d && (v.ks.all fun t => (List.range l.length).all fun i => dstOf l i != t.1) && v.kg.all fun g => ms.contains g && (directs l v.i).contains g) &&
  (ms.all fun k => k < l.length && !(V.map (·.d)).contains (dstOf l k) && ms.all fun k' => k == k' || dstOf l k != dstOf l k') &&
  (D.all fun g => Nat.blt (dstOf l g.1) 1000000)
structure LinOk (l : List Oper) (V : List VO) (D : List (Nat × Value)) (ms : List Nat) : Prop where
  cover : ∀ i, i < l.length → i ∈ ms ∨ ∃ (p : Nat) (v : VO), V[p]? = some v ∧ v.i = i
  early : ∀ i, i < l.length → ∀ j ∈ directs l i, j < i
  vi : (V.map (·.i)).Nodup
  vd : (V.map (·.d)).Nodup
  mn : ms.Nodup
  sep : ∀ (p : Nat) (v : VO), V[p]? = some v → v.i ∉ ms
  ch : chainOk l ms = true
  told : ∀ g x, (g, x) ∈ D → dstOf l g < 1000000
  v : ∀ (p : Nat) (v : VO), V[p]? = some v → v.i < l.length ∧ dstOf l v.i = v.d ∧ (∀ t x, (t, x) ∈ v.ks → ∀ i, i < l.length → dstOf l i ≠ t) ∧ ∀ g ∈ v.kg, g ∈ ms ∧ g ∈ directs l v.i
  m : ∀ k ∈ ms, k < l.length ∧ dstOf l k ∉ V.map (·.d) ∧ ∀ k' ∈ ms, k ≠ k' → dstOf l k ≠ dstOf l k'
theorem linOk_spec {l : List Oper} {V : List VO} {D : List (Nat × Value)} {ms : List Nat} (h : linOk l V D ms = true) : LinOk l V D ms := by
  unfold linOk at h
  simp only [Bool.and_eq_true, decide_eq_true_eq, List.all_eq_true, List.mem_range, Bool.or_eq_true, List.contains_iff_mem, Bool.not_eq_true', bne_iff_ne, beq_iff_eq] at h
  obtain ⟨⟨⟨⟨⟨⟨⟨⟨⟨h1, h2⟩, h3⟩, h4⟩, h5⟩, h6⟩, h7⟩, h9⟩, h10⟩, h11⟩ := h
  refine ⟨fun i hi => ?_, h2, h3, h4, h5, fun p v hv hm => ?_, h7, fun g x hg => ?_, fun p v hv => ?_, fun k hk => ?_⟩
  · rcases h1 i hi with h | h
    · exact .inl h
    · obtain ⟨v, hv, rfl⟩ := List.mem_map.1 h
      obtain ⟨p, hp⟩ := List.mem_iff_getElem?.1 hv
      exact .inr ⟨p, v, hp, rfl⟩
  · have := h6 v (List.mem_of_getElem? hv)
    rw [List.contains_iff_mem.2 hm] at this; cases this
  · exact Nat.blt_eq.mp (h11 (g, x) hg)
  · obtain ⟨⟨⟨a1, a2⟩, a3⟩, a4⟩ := h9 v (List.mem_of_getElem? hv)
    exact ⟨a1, a2, fun t x ht i hi => a3 (t, x) ht i hi, fun g hg => a4 g hg⟩
  · obtain ⟨⟨a1, a2⟩, a3⟩ := h10 k hk
    refine ⟨a1, fun hm => ?_, fun k' hk' hne => ?_⟩
    · rw [List.contains_iff_mem.2 hm] at a2; cases a2
    · exact (a3 k' hk').resolve_left hne
theorem chain_pred {l : List Oper} : ∀ {done rest : List Nat} {k : Nat}, chainOk l (done ++ rest) = true → k ∈ rest → rest.head? ≠ some k → ∃ j ∈ rest, j ∈ directs l k
  | _, [], _, _, h, _ => by cases h
  | [], k0 :: [], k, _, h, hne => absurd (by rw [List.mem_singleton.1 h]; rfl) hne
  | [], k0 :: k1 :: rest, k, hc, h, hne => by
    rw [List.nil_append, chainOk, Bool.and_eq_true] at hc
    rcases List.mem_cons.1 h with rfl | h
    · exact absurd rfl hne
    · by_cases e : k = k1
      · subst e
        exact ⟨k0, List.mem_cons_self, by simpa using hc.1⟩
      · obtain ⟨j, hj, hd⟩ := chain_pred (done := []) (rest := k1 :: rest) hc.2 h (by intro e'; exact e (by simpa using e'.symm))
        exact ⟨j, List.mem_cons_of_mem _ hj, hd⟩
  | d :: done, rest, k, hc, h, hne => by
    refine chain_pred (done := done) (rest := rest) ?_ h hne
    match done, rest, hc with
    | [], [], _ => rfl
    | [], r :: rest, hc => rw [List.cons_append, List.nil_append, chainOk, Bool.and_eq_true] at hc; exact hc.2
    | d' :: done, rest, hc => rw [List.cons_append, List.cons_append, chainOk, Bool.and_eq_true] at hc; exact hc.2
section
variable {P : Program} {Q : Exit → Act → World → Prop} {w0 : Ctx} {σ : List Res} {φ : List (Bool × VP)}
structure Lin (P : Program) (l : List Oper) (Q : Exit → Act → World → Prop) (w0 : Ctx) (V : List VO) (D : List (Nat × Value)) (n : Nat) (φ : List (Bool × VP)) (b0 : List Value) (ms : List Nat) (listed : Array Bool) (a : Act) (w : World)
    (done rest : List Nat) (vals : Nat → Value) (b : List Value) (σ' : List Res) (φ' : List (Bool × VP)) (rst : List (Nat × List Nat)) : Prop where
  map : rst.map (·.1) = rest
  ps : ∀ k q, (k, q) ∈ rst → predOk l V k q = true
  size : listed.size = l.length
  all : ms = done ++ rest
  yes : ∀ j ∈ done, listed.getD j false = true
  no : ∀ j ∈ rest, listed.getD j false = false
  fr : a = act ⟨n, pends (VO.ds V) vals 0, b⟩
  len : n ≤ b.length
  vs : ∀ (p : Nat) (v : VO), V[p]? = some v → listed.getD v.i false = true → vals p = v.c
  st : St w0 w σ' φ'
  sub : ∀ p ∈ φ, p ∈ φ'
  base : ∀ t, (∀ i, i < l.length → dstOf l i ≠ t) → lookL b t = lookL b0 t
  told : ∀ g x, g ∈ done → (g, x) ∈ D → lookL b (dstOf l g) = x
  go : JM P l Q w0 V D n rst σ' φ' b
theorem one_op {l : List Oper} {i : Nat} {o : Oper} (ho : l[i]? = some o) : (l.drop i).take 1 = [o] := by
  obtain ⟨hi, e⟩ := List.getElem?_eq_some_iff.1 ho
  rw [List.drop_eq_getElem_cons hi, e]; rfl
theorem JC_drawL (hm : P.follows .mixedOrders = true) {id n : Nat} {l : List Oper} {b : List Value} (V : List VO) (D : List (Nat × Value)) (mp : List (Nat × List Nat)) (hok : linOk l V D (mp.map (·.1)) = true) (hpm : (mp.all fun k => predOk l V k.1 k.2) = true) (hpv : (V.all fun v => predOk l V v.i v.vp) = true) (hn : n ≤ b.length) (hdb : ((List.range l.length).all fun i => decide (dstOf l i < n) || Nat.ble 1000000 (dstOf l i)) = true)
    (hks : ∀ v ∈ V, ∀ t x, (t, x) ∈ v.ks → lookL b t = x) (hV : ∀ v ∈ V, OV P l w0 V D n φ v) (hM : JM P l Q w0 V D n mp σ φ b) : JC P (.region id l.toArray true) Q w0 σ φ ⟨n, [], b⟩ := by
  intro w s
  have ok := linOk_spec hok
  have hdn : ∀ i, i < l.length → dstOf l i < 1000000 → dstOf l i < n := fun i hi h => by
    have := (List.all_eq_true.1 hdb) i (List.mem_range.2 hi)
    rw [Bool.or_eq_true, decide_eq_true_eq] at this
    rcases this with h2 | h2
    · exact h2
    · have := Nat.le_of_ble_eq_true h2; omega
  refine wp_region_any hm ?_
  let Inv : Array Bool → Act → World → Prop := fun listed a w => ∃ done rest vals b' σ' φ' rst, Lin P l Q w0 V D n φ b (mp.map (·.1)) listed a w done rest vals b' σ' φ' rst
  refine wpAny_inv Inv ?_ ?_ _ _ _ _ (by simp) (by simp [unl, List.countP_replicate]) ?_
  · rintro listed a w i ⟨done, rest, vals, b', σ', φ', rst, L⟩ hi
    obtain ⟨h1, h2, o, ho, h3⟩ := mem_ready hi
    have ho' : l[i]? = some o := by simpa using ho
    have hil : i < l.length := by simpa using h1
    have h4 : listed.getD i false = false := by have := L.size; simpa [Array.getD, h1, this, hil] using h2
    have hdir : ∀ j ∈ directs l i, listed.getD j false = true := by
      intro j hj
      obtain ⟨o2, e, ho2, he, hb, rfl⟩ := directs_inv hj
      obtain rfl : o = o2 := by rw [ho'] at ho2; simpa using ho2
      exact h3 e he hb
    have hss : (listed.setIfInBounds i true).size = l.length := by have := L.size; simpa using this
    have hfr := L.fr
    subst hfr
    unfold wpOp
    rw [ho]
    simp only
    rcases ok.cover i hil with hmain | ⟨p, v, hv, rfl⟩
    · -- the next one of those that follow each other
      have hrest : i ∈ rest := by
        rw [L.all] at hmain
        rcases List.mem_append.1 hmain with h | h
        · rw [L.yes i h] at h4; cases h4
        · exact h
      have hhead : rest.head? = some i := by
        refine Classical.byContradiction fun hne => ?_
        obtain ⟨j, hj, hd⟩ := chain_pred (done := done) (by rw [← L.all]; exact ok.ch) hrest hne
        have h5 := hdir j hd
        rw [L.no j hj] at h5; cases h5
      match rst, rest, L.map, hhead, L with
      | (k, ps) :: rst', _, rfl, hhead, L =>
        obtain rfl : k = i := by simpa using hhead
        have hps := predOk_spec (L.ps k ps List.mem_cons_self)
        have hgo := L.go vals w
        rw [fix_eq fun p v hp hv => L.vs p v hv (hdir v.i (hps p v hp hv))] at hgo
        have hgo := hgo L.st
        rw [one_op ho'] at hgo
        have hmem : k ∈ mp.map (·.1) := by rw [L.all]; exact List.mem_append_right _ List.mem_cons_self
        obtain ⟨_, hd2, hd3⟩ := ok.m k hmem
        have hnd : k ∉ done ∧ k ∉ rst'.map (·.1) := by
          have := ok.mn
          rw [L.all, List.nodup_append] at this
          obtain ⟨_, b1, b2⟩ := this
          exact ⟨fun hc => b2 k hc k List.mem_cons_self rfl, (List.nodup_cons.1 b1).1⟩
        refine wpList_one (fun c a w h => by cases h.1) (fun ⟨a, w, h⟩ => by cases h.1) hgo fun a2 w2 h => ?_
        obtain ⟨_, x, σ2, φ2, rfl, hD, hs2, hsub, hJ⟩ := h
        refine ⟨done ++ [k], rst'.map (·.1), vals, updV b' (dstOf l k) x, σ2, φ2, rst', rfl, fun k q h => L.ps k q (List.mem_cons_of_mem _ h), hss, by rw [L.all, List.append_assoc]; rfl, fun j hj => ?_, fun j hj => ?_, act_main n b' _ vals _ x hd2 L.len, by rw [length_updV]; exact L.len, fun p v hv hl => ?_, hs2, fun p hp => hsub p (L.sub p hp), fun t ht => ?_, fun g y hg hgD => ?_, hJ⟩
        · by_cases e : k = j
          · subst e; exact getD_set_same _ _ (by have := L.size; omega) _
          · rw [getD_set_other _ _ _ e]
            rcases List.mem_append.1 hj with hj | hj
            · exact L.yes j hj
            · exact absurd (List.mem_singleton.1 hj).symm e
        · rw [getD_set_other _ _ _ (fun e : k = j => hnd.2 (by rw [e]; exact hj))]
          exact L.no j (List.mem_cons_of_mem _ hj)
        · have hne : k ≠ v.i := fun e => ok.sep p v hv (e ▸ hmem)
          rw [getD_set_other _ _ _ hne] at hl
          exact L.vs p v hv hl
        · rw [lookL_updV_other _ _ _ _ (ht k hil)]
          exact L.base t ht
        · rcases List.mem_append.1 hg with hg | hg
          · have hne : k ≠ g := fun e => hnd.1 (e ▸ hg)
            rw [lookL_updV_other _ _ _ _ (hd3 g (by rw [L.all]; exact List.mem_append_left _ hg) hne)]
            exact L.told g y hg hgD
          · obtain rfl := List.mem_singleton.1 hg
            rw [lookL_updV_same _ _ _ (Nat.lt_of_lt_of_le (hdn g hil (ok.told g y hgD)) L.len)]; exact hD.spec y hgD
    · -- one that may stand anywhere
      obtain ⟨a1, a2, a3, a4⟩ := ok.v p v hv
      have hO := hV v (List.mem_of_getElem? hv) σ' φ' b' vals L.sub (fun t x ht => LkL.get ((L.base t (a3 t x ht)).trans (hks v (List.mem_of_getElem? hv) t x ht))) (fun g x hg hgD => LkL.get (L.told g x (by
          have hmm := (a4 g hg).1
          rw [L.all] at hmm
          rcases List.mem_append.1 hmm with h | h
          · exact h
          · have := hdir g (a4 g hg).2
            rw [L.no g h] at this; cases this) hgD)) w
      have hpp := predOk_spec (List.all_eq_true.1 hpv v (List.mem_of_getElem? hv))
      rw [fix_eq fun q v' hq hv' => L.vs q v' hv' (hdir v'.i (hpp q v' hq hv'))] at hO
      have hO := hO L.st
      rw [one_op ho'] at hO
      refine wpList_one (fun c a w h => by cases h.1) (fun ⟨a, w, h⟩ => by cases h.1) hO fun a2 w2 h => ?_
      obtain ⟨_, rfl, hs2⟩ := h
      refine ⟨done, rest, setV vals p v.c, b', σ', φ', rst, L.map, L.ps, hss, L.all, fun j hj => ?_, fun j hj => ?_, act_pends_put n b' _ ok.vd vals p v.d (by rw [List.getElem?_map, hv]; rfl) v.c, L.len, fun q v' hv' hl => ?_, hs2, L.sub, L.base, L.told, L.go⟩
      · have hne : v.i ≠ j := fun e => ok.sep p v hv (by rw [e, L.all]; exact List.mem_append_left _ hj)
        rw [getD_set_other _ _ _ hne]; exact L.yes j hj
      · have hne : v.i ≠ j := fun e => ok.sep p v hv (by rw [e, L.all]; exact List.mem_append_right _ hj)
        rw [getD_set_other _ _ _ hne]; exact L.no j hj
      · unfold setV
        by_cases e : q = p
        · subst e
          rw [if_pos rfl]
          rw [hv] at hv'
          rw [Option.some.inj hv']
        · rw [if_neg e]
          refine L.vs q v' hv' ?_
          have hne : v.i ≠ v'.i := fun e2 => e (by
            have hp := (List.getElem?_eq_some_iff.1 hv).1
            have hq := (List.getElem?_eq_some_iff.1 hv').1
            refine (List.getElem_inj (h₀ := by rw [List.length_map]; exact hq) (h₁ := by rw [List.length_map]; exact hp) ok.vi).1 ?_
            rw [List.getElem_map, List.getElem_map, (List.getElem?_eq_some_iff.1 hv).2, (List.getElem?_eq_some_iff.1 hv').2]
            exact e2.symm)
          rwa [getD_set_other _ _ _ hne] at hl
  · rintro listed a w ⟨done, rest, vals, b', σ', φ', rst, L⟩ hr
    have hall : ∀ i, i < l.length → listed.getD i false = true := by
      intro i
      induction i using Nat.strongRecOn with
      | _ i ih =>
        intro hi
        cases hl : listed.getD i false with
        | true => rfl
        | false =>
          exfalso
          have : i ∈ Region.ready .any l.toArray listed := by
            refine ready_of (o := l[i]) (by simp [hi]) (by have := L.size; simpa [Array.getD, this, hi] using hl) ?_
            intro e he hb
            have hdir := directs_spec (l := l) (i := i) (List.getElem?_eq_getElem hi) he hb
            have := ok.early i hi _ hdir
            exact ih e.on this (by omega)
          rw [hr] at this
          cases this
    match rst, rest, L.map, L with
    | [], _, rfl, L =>
      have hfr := L.fr
      subst hfr
      have hgo := L.go w
      rw [show pends (VO.ds V) (fun p => (V.getD p default).c) 0 = pends (VO.ds V) vals 0 from pends_congr _ _ _ _ fun j hj => by
        rw [Nat.zero_add]
        have hj' : j < V.length := by simpa using hj
        have e : V[j]? = some V[j] := List.getElem?_eq_getElem hj'
        rw [L.vs j _ e (hall _ (ok.v j _ e).1), List.getD_eq_getElem?_getD, e]; rfl] at hgo
      exact hgo L.st
    | (k, ps) :: rst', _, rfl, L =>
      have h5 := L.no k List.mem_cons_self
      rw [hall k (ok.m k (by rw [L.all]; exact List.mem_append_right _ List.mem_cons_self)).1] at h5
      cases h5
  · have hrep' : ∀ i, (Array.replicate l.toArray.size false).getD i false = false := fun i => by simp [Array.getD]
    exact ⟨[], mp.map (·.1), fun i => lookL b ((VO.ds V).getD i 0), b, σ, φ, mp, rfl, fun k q h => List.all_eq_true.1 hpm (k, q) h, by simp, rfl, fun _ h => (by cases h), fun j _ => hrep' j, (act_pends_start n b _).symm, hn, fun p v _ h => (by rw [hrep'] at h; cases h), s.ext ((Below.refl _ _).drew), fun _ h => h, fun _ _ => rfl, fun _ _ h => (by cases h), hM⟩
theorem JM_cons {l : List Oper} {V : List VO} {D : List (Nat × Value)} {n k : Nat} {ps : List Nat} {ms : List (Nat × List Nat)} {b : List Value} (frf : (Nat → Value) → Fr) (hf : ∀ vals, (⟨n, pends (VO.ds V) (fixV ps V vals) 0, b⟩ : Fr) = frf vals)
    (h : ∀ vals, JL P l.toArray (NX l w0 D (JM P l Q w0 V D n ms) k φ b (frf vals)) w0 σ φ ((l.drop k).take 1) (frf vals)) : JM P l Q w0 V D n ((k, ps) :: ms) σ φ b := fun vals => by
  rw [hf vals]; exact h vals
theorem OV_mk {l : List Oper} {V : List VO} {D : List (Nat × Value)} {n : Nat} {v : VO} (frf : (Nat → Value) → List Value → Fr) (hf : ∀ vals b, (⟨n, pends (VO.ds V) (fixV v.vp V vals) 0, b⟩ : Fr) = frf vals b)
    (h : ∀ (σ : List Res) (φ' : List (Bool × VP)) (b : List Value) (vals : Nat → Value), (∀ p ∈ φ, p ∈ φ') → (∀ t x, (t, x) ∈ v.ks → LkL b t x) → (∀ g x, g ∈ v.kg → (g, x) ∈ D → LkL b (dstOf l g) x) → JL P l.toArray (NV w0 φ' σ v.d v.c (frf vals b)) w0 σ φ' ((l.drop v.i).take 1) (frf vals b)) : OV P l w0 V D n φ v := fun σ φ' b vals h1 h2 h3 => by
  rw [hf vals b]; exact h σ φ' b vals h1 h2 h3
theorem JL_lin {l : List Oper} {D : List (Nat × Value)} {J : List Res → List (Bool × VP) → List Value → Prop} {k : Nat} {b b' : List Value} {fr fr' : Fr} {ops : Array Oper} {σ' : List Res} {φ' : List (Bool × VP)} (d : Nat) (x : Value) (hk : dstOf l k = d) (hfr : fr' = upd fr d x) (hD : DOk D k x) (hsub : ∀ p ∈ φ, p ∈ φ') (h : J σ' φ' b') (hb : flatP [(d, x)] b = b' := by simp only [nrmF]; rfl) : JL P ops (NX l w0 D J k φ b fr) w0 σ' φ' [] fr' := fun w s =>
  ⟨rfl, x, σ', φ', by rw [hfr, hk], hD, s, hsub, by rw [hk]; show J σ' φ' (flatP [(d, x)] b); rw [hb]; exact h⟩
theorem updV_big : ∀ (b : List Value) (d : Nat) (x : Value), b.length ≤ d → updV b d x = b
  | [], _, _, _ => rfl
  | _ :: _, 0, _, h => by simp at h
  | v :: l, d + 1, x, h => by rw [updV_succ, updV_big l d x (by simpa using h)]
theorem act_big (fr : Fr) (d : Nat) (x : Value) (h : fr.n ≤ d) : act (upd fr d x) = act fr := by
  unfold act upd
  congr 2
  apply List.map_congr_left
  intro t ht
  have ht : t < fr.n := List.mem_range.1 ht
  show lkP ((d, x) :: fr.pend) fr.base t = lkP fr.pend fr.base t
  rw [lkP]
  have hb : Nat.beq d t = false := by
    cases hb : Nat.beq d t with
    | false => rfl
    | true => exact absurd (Nat.eq_of_beq_eq_true hb) (by omega)
  rw [hb]; rfl
/-- The same behind an operation that fills no slot. -/
theorem JL_lin0 {l : List Oper} {D : List (Nat × Value)} {J : List Res → List (Bool × VP) → List Value → Prop} {k : Nat} {b : List Value} {fr fr' : Fr} {ops : Array Oper} {σ' : List Res} {φ' : List (Bool × VP)} (hfr : fr' = fr) (hD : DOk D k undef) (hsub : ∀ p ∈ φ, p ∈ φ') (h : J σ' φ' b) (hk : Nat.ble b.length (dstOf l k) = true := by kernel_rfl) (hn : Nat.ble fr.n (dstOf l k) = true := by kernel_rfl) : JL P ops (NX l w0 D J k φ b fr) w0 σ' φ' [] fr' := fun w s =>
  ⟨rfl, undef, σ', φ', by rw [hfr, act_big _ _ _ (Nat.le_of_ble_eq_true hn)], hD, s, hsub, by rw [updV_big _ _ _ (Nat.le_of_ble_eq_true hk)]; exact h⟩
theorem JL_linV {c : Value} {d : Nat} {fr fr' : Fr} {ops : Array Oper} {φ' : List (Bool × VP)} (hfr : fr' = upd fr d c) : JL P ops (NV w0 φ' σ d c fr) w0 σ φ' [] fr' := fun _ s => ⟨rfl, by rw [hfr], s⟩
theorem JM_nil {l : List Oper} {V : List VO} {D : List (Nat × Value)} {n : Nat} {b : List Value} (fr : Fr) (hfr : fr = ⟨n, pends (VO.ds V) (fun p => (V.getD p default).c) 0, b⟩) (h : JL P l.toArray Q w0 σ φ [] fr) : JM P l Q w0 V D n [] σ φ b := by
  subst hfr; exact h
theorem JM_nm {l : List Oper} {V : List VO} {D : List (Nat × Value)} {n : Nat} {ms : List (Nat × List Nat)} {b : List Value} (σ' : List Res) (φ' : List (Bool × VP)) (h : JM P l Q w0 V D n ms σ' φ' b) (h2 : σ' = σ := by exact rfl) (h3 : φ' = φ := by exact rfl) : JM P l Q w0 V D n ms σ φ b := by
  subst h2 h3; exact h
end
end Go.Fw

/- A region that draws its order: some operations follow each other and may change what is owned, the others float: they read what does not change, or what is owned and stays as it is until they are done; their values are known, or told by a fact. -/
namespace Go.Fw
open Go Go.RowKit
/-- An operation that floats: its place, its slot, its value (or what is told of it), the floating ones before on whose values it leans, and whether it reads what is owned. -/
structure VM where
  i : Nat
  d : Nat
  c : Option Value
  post : Value → List VP → Prop
  vp : List Nat
  st : Bool
instance : Inhabited VM := ⟨⟨0, 0, none, fun _ _ => True, [], false⟩⟩
def vmV (i d : Nat) (vp : List Nat) (st : Bool) (c : Value) : VM := ⟨i, d, some c, fun _ _ => True, vp, st⟩
def vmC (i d : Nat) (vp : List Nat) (st : Bool) (post : Value → List VP → Prop) : VM := ⟨i, d, none, post, vp, st⟩
def VM.F (v : VM) : Value → VP := match v.c with
  | some c => fun x => vPure (x = c)
  | none => vPost v.post
def fixM (ps : List Nat) (V : List VM) (vals : Nat → Value) (p : Nat) : Value := bif ps.contains p then (match (V.getD p default).c with
  | some c => c
  | none => vals p) else vals p
def factsM (V : List VM) (vals : Nat → Value) : List Nat → List (Bool × VP)
  | [] => []
  | p :: ps => match (V.getD p default).c with
    | some _ => factsM V vals ps
    | none => (true, vPost (V.getD p default).post (vals p)) :: factsM V vals ps
def updsM : List Value → List Nat → (Nat → Value) → List Value
  | b, [], _ => b
  | b, d :: ds, us => updsM (updV b d (us d)) ds us
def KeepR : List (Nat × Res) → List Res → Prop
  | [], _ => True
  | (j, r) :: R, σ => Nth σ j r ∧ KeepR R σ
theorem KeepR.get : ∀ {R : List (Nat × Res)} {σ : List Res}, KeepR R σ → ∀ j r, (j, r) ∈ R → Nth σ j r
  | [], _, _, _, _, h => by cases h
  | (j, r) :: R, σ, h, j', r', hm => by
    rcases List.mem_cons.1 hm with e | hm
    · obtain ⟨rfl, rfl⟩ := Prod.mk.inj e; exact h.1
    · exact KeepR.get h.2 j' r' hm
theorem updV_idem : ∀ (b : List Value) (d : Nat) (x y : Value), updV (updV b d x) d y = updV b d y
  | [], _, _, _ => rfl
  | _ :: _, 0, _, _ => rfl
  | v :: b, d + 1, x, y => by rw [updV_succ, updV_succ, updV_succ, updV_idem b d x y]
theorem updV_comm : ∀ (b : List Value) (d e : Nat) (x y : Value), d ≠ e → updV (updV b d x) e y = updV (updV b e y) d x
  | [], _, _, _, _, _ => rfl
  | _ :: _, 0, 0, _, _, h => absurd rfl h
  | _ :: _, 0, _ + 1, _, _, _ => rfl
  | _ :: _, _ + 1, 0, _, _, _ => rfl
  | v :: b, d + 1, e + 1, x, y, h => by rw [updV_succ, updV_succ, updV_succ, updV_succ, updV_comm b d e x y (by omega)]
theorem updV_look : ∀ (b : List Value) (d : Nat), updV b d (lookL b d) = b
  | [], _ => rfl
  | _ :: _, 0 => rfl
  | v :: b, d + 1 => by rw [updV_succ, show lookL (v :: b) (d + 1) = lookL b d from rfl, updV_look b d]
theorem updsM_look : ∀ (ds : List Nat) (b : List Value), updsM b ds (lookL b) = b
  | [], _ => rfl
  | d :: ds, b => by rw [updsM, updV_look, updsM_look ds b]
theorem updsM_out : ∀ (ds : List Nat) (b : List Value) (us : Nat → Value) (d : Nat) (x : Value), d ∉ ds → updV (updsM b ds us) d x = updsM (updV b d x) ds us
  | [], _, _, _, _, _ => rfl
  | e :: ds, b, us, d, x, h => by
    rw [updsM, updsM, updsM_out ds _ us d x (fun hm => h (List.mem_cons_of_mem _ hm)), updV_comm b e d (us e) x (fun e' => h (by rw [e']; exact List.mem_cons_self))]
theorem updsM_congr : ∀ (ds : List Nat) (b : List Value) (us us' : Nat → Value), (∀ d ∈ ds, us d = us' d) → updsM b ds us = updsM b ds us'
  | [], _, _, _, _ => rfl
  | d :: ds, b, us, us', h => by rw [updsM, updsM, h d List.mem_cons_self, updsM_congr ds _ us us' fun e he => h e (List.mem_cons_of_mem _ he)]
theorem updsM_set : ∀ (ds : List Nat) (b : List Value) (us : Nat → Value) (d : Nat) (x : Value), d ∈ ds → ds.Nodup → updV (updsM b ds us) d x = updsM b ds (fun e => if e = d then x else us e)
  | [], _, _, _, _, h, _ => by cases h
  | e :: ds, b, us, d, x, h, hn => by
    obtain ⟨h1, h2⟩ := List.nodup_cons.1 hn
    rw [updsM, updsM]
    by_cases he : d = e
    · subst he
      rw [if_pos rfl, updsM_out ds _ us d x h1, updV_idem]
      exact updsM_congr ds _ _ _ fun c hc => by rw [if_neg (fun e' : c = d => h1 (e' ▸ hc))]
    · rw [if_neg (fun e' => he e'.symm)]
      rcases List.mem_cons.1 h with h | h
      · exact absurd h he
      · exact updsM_set ds _ us d x h h2
theorem length_updsM : ∀ (ds : List Nat) (b : List Value) (us : Nat → Value), (updsM b ds us).length = b.length
  | [], _, _ => rfl
  | d :: ds, b, us => by rw [updsM, length_updsM ds, length_updV]
section
variable (P : Program) (l : List Oper) (Q : Exit → Act → World → Prop) (w0 : Ctx) (V : List VM) (R : List (Nat × Res)) (n : Nat)
abbrev VM.ds (V : List VM) : List Nat := V.map (·.d)
/-- What stands behind an operation of those that follow each other. -/
def NM (J : List Res → List (Bool × VP) → List Value → Prop) (keep : Bool) (d : Nat) (φx : List (Bool × VP)) (b : List Value) (fr : Fr) : Exit → Act → World → Prop :=
  fun e a w => e = .normal ∧ ∃ x σ' φ' φn, a = act (upd fr d x) ∧ St w0 w σ' φ' ∧ (∀ p ∈ φx, p ∈ φ') ∧ (∀ p ∈ φn, p ∈ φ') ∧ (keep = true → KeepR R σ') ∧ J σ' φn (updV b d x)
/-- What is to be shown of the operations that follow each other; the first u of them keep what is read. -/
def JMM : Nat → List (Nat × List Nat) → List Res → List (Bool × VP) → List Value → Prop
  | _, [], σ, φ, b => ∀ vals : Nat → Value, JL P l.toArray Q w0 σ (factsM V vals (List.range V.length) ++ φ) [] ⟨n, pends (VM.ds V) (fixM (List.range V.length) V vals) 0, b⟩
  | u, (k, ps) :: ms, σ, φ, b => ∀ (vals : Nat → Value) (ψ : List (Bool × VP)), JL P l.toArray (NM w0 R (JMM (u - 1) ms) (Nat.blt 0 u) (dstOf l k) (factsM V vals ps ++ (φ ++ ψ)) b ⟨n, pends (VM.ds V) (fixM ps V vals) 0, b⟩) w0 σ (factsM V vals ps ++ (φ ++ ψ)) ((l.drop k).take 1) ⟨n, pends (VM.ds V) (fixM ps V vals) 0, b⟩
/-- What is to be shown of an operation that floats. -/
def OblM (φ : List (Bool × VP)) (b : List Value) (dsm : List Nat) (v : VM) : Prop :=
  ∀ (vals us : Nat → Value) (σ : List Res) (ψ : List (Bool × VP)), (v.st = true → KeepR R σ) →
    JL P l.toArray (StepQ w0 σ (factsM V vals v.vp ++ (φ ++ ψ)) ⟨n, pends (VM.ds V) (fixM v.vp V vals) 0, updsM b dsm us⟩ v.d v.F) w0 σ (factsM V vals v.vp ++ (φ ++ ψ)) ((l.drop v.i).take 1) ⟨n, pends (VM.ds V) (fixM v.vp V vals) 0, updsM b dsm us⟩
def OblsM (φ : List (Bool × VP)) (b : List Value) (dsm : List Nat) : List VM → Prop
  | [] => True
  | v :: vs => OblM P l w0 V R n φ b dsm v ∧ OblsM φ b dsm vs
end
theorem OblsM.get {P : Program} {l : List Oper} {w0 : Ctx} {V : List VM} {R : List (Nat × Res)} {n : Nat} {φ : List (Bool × VP)} {b : List Value} {dsm : List Nat} : ∀ {vs : List VM}, OblsM P l w0 V R n φ b dsm vs → ∀ v ∈ vs, OblM P l w0 V R n φ b dsm v
  | [], _, _, h => by cases h
  | v :: vs, h, v', hm => by
    rcases List.mem_cons.1 hm with rfl | hm
    · exact h.1
    · exact OblsM.get h.2 v' hm
def predOkM (l : List Oper) (V : List VM) (i : Nat) (ps : List Nat) : Bool := ps.all fun p => match V[p]? with | some v => (directs l i).contains v.i | none => false
theorem predOkM_spec {l : List Oper} {V : List VM} {i : Nat} {ps : List Nat} (h : predOkM l V i ps = true) : ∀ p ∈ ps, ∃ v, V[p]? = some v ∧ v.i ∈ directs l i := fun p hp => by
  have := List.all_eq_true.1 h p hp
  cases e : V[p]? with
  | none => rw [e] at this; cases this
  | some v => rw [e] at this; exact ⟨v, rfl, by simpa using this⟩
def linOkM (l : List Oper) (V : List VM) (ms : List Nat) (u : Nat) : Bool :=
  ((List.range l.length).all fun i => ms.contains i || (V.map (·.i)).contains i) &&
  ((List.range l.length).all fun i => (directs l i).all fun j => j < i) &&
  (V.map (·.i)).Nodup && (V.map (·.d)).Nodup && ms.Nodup && (V.all fun (v : VM) => !ms.contains v.i) && chainOk l ms &&
  (V.all fun (v : VM) => v.i < l.length && dstOf l v.i == v.d && (!v.st || match ms[u]? with | some k => (reach l l.length k).contains v.i | none => true)) &&
  (ms.all fun k => k < l.length && !(V.map (·.d)).contains (dstOf l k)) && (ms.map (dstOf l)).Nodup
structure LinOkM (l : List Oper) (V : List VM) (ms : List Nat) (u : Nat) : Prop where
  cover : ∀ i, i < l.length → i ∈ ms ∨ ∃ (p : Nat) (v : VM), V[p]? = some v ∧ v.i = i
  early : ∀ i, i < l.length → ∀ j ∈ directs l i, j < i
  vi : (V.map (·.i)).Nodup
  vd : (V.map (·.d)).Nodup
  mn : ms.Nodup
  sep : ∀ (p : Nat) (v : VM), V[p]? = some v → v.i ∉ ms
  ch : chainOk l ms = true
  v : ∀ (p : Nat) (v : VM), V[p]? = some v → v.i < l.length ∧ dstOf l v.i = v.d ∧ (v.st = true → ∀ k, ms[u]? = some k → v.i ∈ reach l l.length k)
  m : ∀ k ∈ ms, k < l.length ∧ dstOf l k ∉ V.map (·.d)
  md : (ms.map (dstOf l)).Nodup
theorem linOkM_spec {l : List Oper} {V : List VM} {ms : List Nat} {u : Nat} (h : linOkM l V ms u = true) : LinOkM l V ms u := by
  unfold linOkM at h
  simp only [Bool.and_eq_true, decide_eq_true_eq, List.all_eq_true, List.mem_range, Bool.or_eq_true, List.contains_iff_mem, Bool.not_eq_true', beq_iff_eq] at h
  obtain ⟨⟨⟨⟨⟨⟨⟨⟨⟨h1, h2⟩, h3⟩, h4⟩, h5⟩, h6⟩, h7⟩, h9⟩, h10⟩, h11⟩ := h
  refine ⟨fun i hi => ?_, h2, h3, h4, h5, fun p v hv hm => ?_, h7, fun p v hv => ?_, fun k hk => ?_, h11⟩
  · rcases h1 i hi with h | h
    · exact .inl h
    · obtain ⟨v, hv, rfl⟩ := List.mem_map.1 h
      obtain ⟨p, hp⟩ := List.mem_iff_getElem?.1 hv
      exact .inr ⟨p, v, hp, rfl⟩
  · have := h6 v (List.mem_of_getElem? hv)
    rw [List.contains_iff_mem.2 hm] at this; cases this
  · obtain ⟨⟨a1, a2⟩, a3⟩ := h9 v (List.mem_of_getElem? hv)
    refine ⟨a1, a2, fun hs k hk => ?_⟩
    rcases a3 with a3 | a3
    · rw [hs] at a3; cases a3
    · rw [hk] at a3; simpa using a3
  · obtain ⟨a1, a2⟩ := h10 k hk
    exact ⟨a1, fun hm => by rw [List.contains_iff_mem.2 hm] at a2; cases a2⟩
section
variable {P : Program} {Q : Exit → Act → World → Prop} {w0 : Ctx} {σ : List Res} {φ : List (Bool × VP)} {fr : Fr} {ops : Array Oper}
structure LinM (P : Program) (l : List Oper) (Q : Exit → Act → World → Prop) (w0 : Ctx) (V : List VM) (R : List (Nat × Res)) (u n : Nat) (φ : List (Bool × VP)) (b0 : List Value) (ms : List Nat) (listed : Array Bool) (a : Act) (w : World)
    (done rest : List Nat) (vals us : Nat → Value) (σ' : List Res) (φc φa : List (Bool × VP)) (rst : List (Nat × List Nat)) : Prop where
  map : rst.map (·.1) = rest
  ps : ∀ k q, (k, q) ∈ rst → predOkM l V k q = true
  size : listed.size = l.length
  down : Down l listed
  all : ms = done ++ rest
  yes : ∀ j ∈ done, listed.getD j false = true
  no : ∀ j ∈ rest, listed.getD j false = false
  fr : a = act ⟨n, pends (VM.ds V) vals 0, updsM b0 (ms.map (dstOf l)) us⟩
  vs : ∀ (p : Nat) (v : VM), V[p]? = some v → listed.getD v.i false = true → ∀ c, v.c = some c → vals p = c
  fs : ∀ (p : Nat) (v : VM), V[p]? = some v → listed.getD v.i false = true → v.c = none → (true, vPost v.post (vals p)) ∈ φa
  st : St w0 w σ' φa
  sub : ∀ p ∈ φ, p ∈ φa
  cur : ∀ p ∈ φc, p ∈ φa
  keep : done.length ≤ u → KeepR R σ'
  go : JMM P l Q w0 V R n (u - done.length) rst σ' φc (updsM b0 (ms.map (dstOf l)) us)
theorem fixM_eq {V : List VM} {ps : List Nat} {vals : Nat → Value} (h : ∀ p ∈ ps, ∀ v, V[p]? = some v → ∀ c, v.c = some c → vals p = c) : pends (VM.ds V) (fixM ps V vals) 0 = pends (VM.ds V) vals 0 := by
  refine pends_congr _ _ _ _ fun j hj => ?_
  rw [Nat.zero_add]
  unfold fixM
  cases hc : ps.contains j with
  | false => rfl
  | true =>
    have hj' : j < V.length := by simpa using hj
    have e : V[j]? = some V[j] := List.getElem?_eq_getElem hj'
    have eg : V.getD j default = V[j] := by rw [List.getD_eq_getElem?_getD, e]; rfl
    show (match (V.getD j default).c with | some c => c | none => vals j) = vals j
    rw [eg]
    cases hcc : V[j].c with
    | none => rfl
    | some c => exact (h j (by simpa using hc) _ e c hcc).symm
theorem factsM_sub {V : List VM} {vals : Nat → Value} {φa : List (Bool × VP)} : ∀ {ps : List Nat}, (∀ p ∈ ps, ∃ v, V[p]? = some v ∧ (v.c = none → (true, vPost v.post (vals p)) ∈ φa)) → ∀ q ∈ factsM V vals ps, q ∈ φa
  | [], _, _, h => by cases h
  | p :: ps, hp, q, h => by
    obtain ⟨v, e, hv⟩ := hp p List.mem_cons_self
    have eg : V.getD p default = v := by rw [List.getD_eq_getElem?_getD, e]; rfl
    rw [factsM, eg] at h
    cases hc : v.c with
    | some c => rw [hc] at h; exact factsM_sub (fun p' h' => hp p' (List.mem_cons_of_mem _ h')) q h
    | none =>
      rw [hc] at h
      rcases List.mem_cons.1 h with rfl | h
      · exact hv hc
      · exact factsM_sub (fun p' h' => hp p' (List.mem_cons_of_mem _ h')) q h
theorem JC_drawM (hm : P.follows .mixedOrders = true) {id n : Nat} {l : List Oper} {b : List Value} (V : List VM) (R : List (Nat × Res)) (u : Nat) (mp : List (Nat × List Nat)) (hok : linOkM l V (mp.map (·.1)) u = true) (hpm : (mp.all fun k => predOkM l V k.1 k.2) = true) (hpv : (V.all fun v => predOkM l V v.i v.vp) = true) (hn : n ≤ b.length)
    (hR : KeepR R σ) (hV : OblsM P l w0 V R n φ b ((mp.map (·.1)).map (dstOf l)) V) (hM : JMM P l Q w0 V R n u mp σ φ b) : JC P (.region id l.toArray true) Q w0 σ φ ⟨n, [], b⟩ := by
  intro w s
  have ok := linOkM_spec hok
  refine wp_region_any hm ?_
  let Inv : Array Bool → Act → World → Prop := fun listed a w => ∃ done rest vals us σ' φc φa rst, LinM P l Q w0 V R u n φ b (mp.map (·.1)) listed a w done rest vals us σ' φc φa rst
  refine wpAny_inv Inv ?_ ?_ _ _ _ _ (by simp) (by simp [unl, List.countP_replicate]) ?_
  · rintro listed a w i ⟨done, rest, vals, us, σ', φc, φa, rst, L⟩ hi
    obtain ⟨h1, h2, o, ho, h3⟩ := mem_ready hi
    have ho' : l[i]? = some o := by simpa using ho
    have hil : i < l.length := by simpa using h1
    have h4 : listed.getD i false = false := by have := L.size; simpa [Array.getD, h1, this, hil] using h2
    have hdir : ∀ j ∈ directs l i, listed.getD j false = true := by
      intro j hj
      obtain ⟨o2, e, ho2, he, hb, rfl⟩ := directs_inv hj
      obtain rfl : o = o2 := by rw [ho'] at ho2; simpa using ho2
      exact h3 e he hb
    have hss : (listed.setIfInBounds i true).size = l.length := by have := L.size; simpa using this
    have hdown : Down l (listed.setIfInBounds i true) := fun j hj k hk => by
      by_cases e : i = j
      · subst e
        by_cases e2 : i = k
        · subst e2; exact getD_set_same _ _ (by have := L.size; omega) _
        · rw [getD_set_other _ _ _ e2]; exact hdir k hk
      · rw [getD_set_other _ _ _ e] at hj
        have := L.down j hj k hk
        by_cases e2 : i = k
        · subst e2; exact getD_set_same _ _ (by have := L.size; omega) _
        · rw [getD_set_other _ _ _ e2]; exact this
    have hfr := L.fr
    subst hfr
    unfold wpOp
    rw [ho]
    simp only
    rcases ok.cover i hil with hmain | ⟨p, v, hv, rfl⟩
    · -- the next one of those that follow each other
      have hrest : i ∈ rest := by
        rw [L.all] at hmain
        rcases List.mem_append.1 hmain with h | h
        · rw [L.yes i h] at h4; cases h4
        · exact h
      have hhead : rest.head? = some i := by
        refine Classical.byContradiction fun hne => ?_
        obtain ⟨j, hj, hd⟩ := chain_pred (done := done) (by rw [← L.all]; exact ok.ch) hrest hne
        have h5 := hdir j hd
        rw [L.no j hj] at h5; cases h5
      match rst, rest, L.map, hhead, L with
      | (k, ps) :: rst', _, rfl, hhead, L =>
        obtain rfl : k = i := by simpa using hhead
        have hps := predOkM_spec (L.ps k ps List.mem_cons_self)
        have hgo := L.go vals φa w
        rw [fixM_eq fun p hp v hv c hc => by
          obtain ⟨v', e', hd⟩ := hps p hp
          rw [hv] at e'; cases e'
          exact L.vs p v hv (hdir v.i hd) c hc] at hgo
        have hfa := factsM_sub (V := V) (vals := vals) (φa := φa) (ps := ps) fun p hp => by
          obtain ⟨v, e, hd⟩ := hps p hp
          exact ⟨v, e, L.fs p v e (hdir v.i hd)⟩
        have hgo := hgo (L.st.weaken fun q hq => by
          rcases List.mem_append.1 hq with hq | hq
          · exact hfa q hq
          · rcases List.mem_append.1 hq with hq | hq
            · exact L.cur q hq
            · exact hq)
        rw [one_op ho'] at hgo
        have hmem : k ∈ mp.map (·.1) := by rw [L.all]; exact List.mem_append_right _ List.mem_cons_self
        have hnd : k ∉ done ∧ k ∉ rst'.map (·.1) := by
          have := ok.mn
          rw [L.all, List.nodup_append] at this
          obtain ⟨_, b1, b2⟩ := this
          exact ⟨fun hc => b2 k hc k List.mem_cons_self rfl, (List.nodup_cons.1 b1).1⟩
        have hlen : n ≤ (updsM b ((mp.map (·.1)).map (dstOf l)) us).length := by rw [length_updsM]; exact hn
        refine wpList_one (fun c a w h => by cases h.1) (fun ⟨a, w, h⟩ => by cases h.1) hgo fun a2 w2 h => ?_
        obtain ⟨_, x, σ2, φ2, φn, rfl, hs2, hsub, hnew, hkeep, hJ⟩ := h
        rw [updsM_set _ _ _ _ _ (List.mem_map.2 ⟨k, hmem, rfl⟩) ok.md] at hJ
        refine ⟨done ++ [k], rst'.map (·.1), vals, fun e => if e = dstOf l k then x else us e, σ2, φn, φ2, rst', rfl, fun k q h => L.ps k q (List.mem_cons_of_mem _ h), hss, hdown, by rw [L.all, List.append_assoc]; rfl, fun j hj => ?_, fun j hj => ?_, ?_, fun p v hv hl c hc => ?_, fun p v hv hl hc => ?_, hs2, fun p hp => hsub p (List.mem_append_right _ (List.mem_append_right _ (L.sub p hp))), hnew, fun hle => ?_, ?_⟩
        · by_cases e : k = j
          · subst e; exact getD_set_same _ _ (by have := L.size; omega) _
          · rw [getD_set_other _ _ _ e]
            rcases List.mem_append.1 hj with hj | hj
            · exact L.yes j hj
            · exact absurd (List.mem_singleton.1 hj).symm e
        · rw [getD_set_other _ _ _ (fun e : k = j => hnd.2 (by rw [e]; exact hj))]
          exact L.no j (List.mem_cons_of_mem _ hj)
        · rw [← updsM_set _ _ _ _ _ (List.mem_map.2 ⟨k, hmem, rfl⟩) ok.md]
          exact act_main n _ _ vals _ x (ok.m k hmem).2 hlen
        · have hne : k ≠ v.i := fun e => ok.sep p v hv (e ▸ hmem)
          rw [getD_set_other _ _ _ hne] at hl
          exact L.vs p v hv hl c hc
        · have hne : k ≠ v.i := fun e => ok.sep p v hv (e ▸ hmem)
          rw [getD_set_other _ _ _ hne] at hl
          exact hsub _ (List.mem_append_right _ (List.mem_append_right _ (L.fs p v hv hl hc)))
        · rw [List.length_append, List.length_singleton] at hle
          exact hkeep (Nat.ble_eq_true_of_le (show 0 + 1 ≤ u - done.length by omega))
        · rw [List.length_append, List.length_singleton, ← Nat.sub_sub]
          exact hJ
    · -- one that floats
      obtain ⟨a1, a2, a3⟩ := ok.v p v hv
      have hpp := predOkM_spec (List.all_eq_true.1 hpv v (List.mem_of_getElem? hv))
      have hst : v.st = true → KeepR R σ' := fun hs => L.keep (Nat.le_of_not_lt fun hlt => by
        have e : ∃ k, (mp.map (·.1))[u]? = some k ∧ k ∈ done := by
          rw [L.all]
          exact ⟨done[u], by rw [List.getElem?_append_left hlt, List.getElem?_eq_getElem hlt], List.getElem_mem hlt⟩
        obtain ⟨k, hk, hkd⟩ := e
        have := reach_listed L.down l.length k (L.down k (L.yes k hkd)) v.i (a3 hs k hk)
        rw [h4] at this; cases this)
      have hO := OblsM.get hV v (List.mem_of_getElem? hv) vals us σ' φa hst w
      rw [fixM_eq fun q hq v' hv' c hc => by
        obtain ⟨v2, e', hd⟩ := hpp q hq
        rw [hv'] at e'; cases e'
        exact L.vs q v' hv' (hdir v'.i hd) c hc] at hO
      have hfa := factsM_sub (V := V) (vals := vals) (φa := φa) (ps := v.vp) fun q hq => by
        obtain ⟨v2, e, hd⟩ := hpp q hq
        exact ⟨v2, e, L.fs q v2 e (hdir v2.i hd)⟩
      have hO := hO (L.st.weaken fun q hq => by
        rcases List.mem_append.1 hq with hq | hq
        · exact hfa q hq
        · rcases List.mem_append.1 hq with hq | hq
          · exact L.sub q hq
          · exact hq)
      rw [one_op ho'] at hO
      refine wpList_one (fun c a w h => h) (fun ⟨a, w, h⟩ => by rcases h with h | h <;> exact h) hO fun a2 w2 h => ?_
      obtain ⟨x, φ2, rfl, hs2, hF, hsub⟩ := h
      have hne0 : ∀ q v', V[q]? = some v' → q ≠ p → v.i ≠ v'.i := fun q v' hv' e e2 => e (by
        have hp := (List.getElem?_eq_some_iff.1 hv).1
        have hq := (List.getElem?_eq_some_iff.1 hv').1
        refine (List.getElem_inj (h₀ := by rw [List.length_map]; exact hq) (h₁ := by rw [List.length_map]; exact hp) ok.vi).1 ?_
        rw [List.getElem_map, List.getElem_map, (List.getElem?_eq_some_iff.1 hv).2, (List.getElem?_eq_some_iff.1 hv').2]
        exact e2.symm)
      have hs3 : St w0 w2 σ' ((true, v.F x) :: φ2) := hs2.addView hF
      refine ⟨done, rest, setV vals p x, us, σ', φc, (true, v.F x) :: φ2, rst, L.map, L.ps, hss, hdown, L.all, fun j hj => ?_, fun j hj => ?_, act_pends_put n _ _ ok.vd vals p v.d (by rw [List.getElem?_map, hv]; rfl) x, fun q v' hv' hl c hc => ?_, fun q v' hv' hl hc => ?_, hs3, fun q hq => List.mem_cons_of_mem _ (hsub q (List.mem_append_right _ (List.mem_append_left _ hq))), fun q hq => List.mem_cons_of_mem _ (hsub q (List.mem_append_right _ (List.mem_append_right _ (L.cur q hq)))), L.keep, L.go⟩
      · have hne : v.i ≠ j := fun e => ok.sep p v hv (by rw [e, L.all]; exact List.mem_append_left _ hj)
        rw [getD_set_other _ _ _ hne]; exact L.yes j hj
      · have hne : v.i ≠ j := fun e => ok.sep p v hv (by rw [e, L.all]; exact List.mem_append_right _ hj)
        rw [getD_set_other _ _ _ hne]; exact L.no j hj
      · unfold setV
        by_cases e : q = p
        · subst e
          rw [if_pos rfl]
          rw [hv] at hv'; cases hv'
          have h9 := hF
          unfold VM.F at h9
          rw [hc] at h9
          exact h9
        · rw [if_neg e]
          refine L.vs q v' hv' ?_ c hc
          rwa [getD_set_other _ _ _ (hne0 q v' hv' e)] at hl
      · unfold setV
        by_cases e : q = p
        · subst e
          rw [if_pos rfl]
          rw [hv] at hv'; cases hv'
          have : v.F x = vPost v.post x := by unfold VM.F; rw [hc]
          rw [← this]; exact List.mem_cons_self
        · rw [if_neg e]
          rw [getD_set_other _ _ _ (hne0 q v' hv' e)] at hl
          exact List.mem_cons_of_mem _ (hsub _ (List.mem_append_right _ (List.mem_append_right _ (L.fs q v' hv' hl hc))))
  · rintro listed a w ⟨done, rest, vals, us, σ', φc, φa, rst, L⟩ hr
    have hall : ∀ i, i < l.length → listed.getD i false = true := by
      intro i
      induction i using Nat.strongRecOn with
      | _ i ih =>
        intro hi
        cases hl : listed.getD i false with
        | true => rfl
        | false =>
          exfalso
          have : i ∈ Region.ready .any l.toArray listed := by
            refine ready_of (o := l[i]) (by simp [hi]) (by have := L.size; simpa [Array.getD, this, hi] using hl) ?_
            intro e he hb
            have hdir := directs_spec (l := l) (i := i) (List.getElem?_eq_getElem hi) he hb
            have := ok.early i hi _ hdir
            exact ih e.on this (by omega)
          rw [hr] at this
          cases this
    match rst, rest, L.map, L with
    | [], _, rfl, L =>
      have hfr := L.fr
      subst hfr
      have hgo := L.go
      unfold JMM at hgo
      have hgo := hgo vals w
      have hvl : ∀ p ∈ List.range V.length, ∃ v, V[p]? = some v ∧ listed.getD v.i false = true := fun p hp => by
        have hj := List.mem_range.1 hp
        exact ⟨V[p], List.getElem?_eq_getElem hj, hall _ (ok.v p _ (List.getElem?_eq_getElem hj)).1⟩
      rw [fixM_eq fun p hp v hv c hc => by
        obtain ⟨v', e', hd⟩ := hvl p hp
        rw [hv] at e'; cases e'
        exact L.vs p v hv hd c hc] at hgo
      have hfa := factsM_sub (V := V) (vals := vals) (φa := φa) (ps := List.range V.length) fun p hp => by
        obtain ⟨v, e, hd⟩ := hvl p hp
        exact ⟨v, e, L.fs p v e hd⟩
      exact hgo (L.st.weaken fun q hq => by
        rcases List.mem_append.1 hq with hq | hq
        · exact hfa q hq
        · exact L.cur q hq)
    | (k, ps) :: rst', _, rfl, L =>
      have h5 := L.no k List.mem_cons_self
      rw [hall k (ok.m k (by rw [L.all]; exact List.mem_append_right _ List.mem_cons_self)).1] at h5
      cases h5
  · have hrep' : ∀ i, (Array.replicate l.toArray.size false).getD i false = false := fun i => by simp [Array.getD]
    exact ⟨[], mp.map (·.1), fun i => lookL b ((VM.ds V).getD i 0), lookL b, σ, φ, φ, mp, rfl, fun k q h => List.all_eq_true.1 hpm (k, q) h, by simp, fun i hi => (by rw [hrep'] at hi; cases hi), rfl, fun _ h => (by cases h), fun j _ => hrep' j, by rw [updsM_look]; exact (act_pends_start n b _).symm, fun p v _ h => (by rw [hrep'] at h; cases h), fun p v _ h => (by rw [hrep'] at h; cases h), s.ext ((Below.refl _ _).drew), fun _ h => h, fun _ h => h, fun _ => hR, by rw [updsM_look]; exact hM⟩
/-! ## Steps as walks use them -/
theorem JMM_cons {l : List Oper} {V : List VM} {R : List (Nat × Res)} {n u k : Nat} {ps : List Nat} {ms : List (Nat × List Nat)} {b : List Value} (frf : (Nat → Value) → Fr) (ff : (Nat → Value) → List (Bool × VP)) (hf : ∀ vals, (⟨n, pends (VM.ds V) (fixM ps V vals) 0, b⟩ : Fr) = frf vals) (hff : ∀ vals, factsM V vals ps = ff vals)
    (h : ∀ vals ψ, JL P l.toArray (NM w0 R (JMM P l Q w0 V R n (u - 1) ms) (Nat.blt 0 u) (dstOf l k) (ff vals ++ (φ ++ ψ)) b (frf vals)) w0 σ (ff vals ++ (φ ++ ψ)) ((l.drop k).take 1) (frf vals)) : JMM P l Q w0 V R n u ((k, ps) :: ms) σ φ b := fun vals ψ => by
  rw [hf vals, hff vals]; exact h vals ψ
theorem OblM_mk {l : List Oper} {V : List VM} {R : List (Nat × Res)} {n : Nat} {b : List Value} {dsm : List Nat} {v : VM} (frf : (Nat → Value) → (Nat → Value) → Fr) (ff : (Nat → Value) → List (Bool × VP)) (F : Value → VP) (hf : ∀ vals us, (⟨n, pends (VM.ds V) (fixM v.vp V vals) 0, updsM b dsm us⟩ : Fr) = frf vals us) (hff : ∀ vals, factsM V vals v.vp = ff vals) (hF : v.F = F)
    (h : ∀ (vals us : Nat → Value) (σ : List Res) (ψ : List (Bool × VP)), (v.st = true → KeepR R σ) → JL P l.toArray (StepQ w0 σ (ff vals ++ (φ ++ ψ)) (frf vals us) v.d F) w0 σ (ff vals ++ (φ ++ ψ)) ((l.drop v.i).take 1) (frf vals us)) : OblM P l w0 V R n φ b dsm v := fun vals us σ ψ hk => by
  rw [hf vals us, hff vals, hF]; exact h vals us σ ψ hk
theorem JL_linM {R : List (Nat × Res)} {J : List Res → List (Bool × VP) → List Value → Prop} {keep : Bool} {b b' : List Value} {fr fr' : Fr} {ops : Array Oper} {σ' : List Res} {φ' φx ψ : List (Bool × VP)} {d : Nat} (x : Value) (φn : List (Bool × VP)) (hfr : fr' = upd fr d x) (he : φ' = φn ++ ψ) (hsub : ∀ p ∈ φx, p ∈ φ') (hk : keep = true → KeepR R σ') (h : J σ' φn b') (hb : flatP [(d, x)] b = b' := by simp only [nrmF]; rfl) : JL P ops (NM w0 R J keep d φx b fr) w0 σ' φ' [] fr' := fun w s =>
  ⟨rfl, x, σ', φ', φn, by rw [hfr], s, hsub, fun p hp => by rw [he]; exact List.mem_append_left _ hp, hk, by show J σ' φn (flatP [(d, x)] b); rw [hb]; exact h⟩
theorem JL_linM0 {R : List (Nat × Res)} {J : List Res → List (Bool × VP) → List Value → Prop} {keep : Bool} {b : List Value} {fr fr' : Fr} {ops : Array Oper} {σ' : List Res} {φ' φx ψ : List (Bool × VP)} {d : Nat} (φn : List (Bool × VP)) (hfr : fr' = fr) (he : φ' = φn ++ ψ) (hsub : ∀ p ∈ φx, p ∈ φ') (hk : keep = true → KeepR R σ') (h : J σ' φn b) (hd : Nat.ble b.length d = true := by kernel_rfl) (hn : Nat.ble fr.n d = true := by kernel_rfl) : JL P ops (NM w0 R J keep d φx b fr) w0 σ' φ' [] fr' := fun w s =>
  ⟨rfl, undef, σ', φ', φn, by rw [hfr, act_big _ _ _ (Nat.le_of_ble_eq_true hn)], s, hsub, fun p hp => by rw [he]; exact List.mem_append_left _ hp, hk, by rw [updV_big _ _ _ (Nat.le_of_ble_eq_true hd)]; exact h⟩
theorem JMM_nil {l : List Oper} {V : List VM} {R : List (Nat × Res)} {n u : Nat} {b : List Value} (frf : (Nat → Value) → Fr) (ff : (Nat → Value) → List (Bool × VP)) (hf : ∀ vals, (⟨n, pends (VM.ds V) (fixM (List.range V.length) V vals) 0, b⟩ : Fr) = frf vals) (hff : ∀ vals, factsM V vals (List.range V.length) = ff vals) (h : ∀ vals, JL P l.toArray Q w0 σ (ff vals ++ φ) [] (frf vals)) : JMM P l Q w0 V R n u [] σ φ b := by
  unfold JMM
  intro vals
  rw [hf vals, hff vals]; exact h vals
theorem JC_drawN (hm : P.follows .mixedOrders = true) {id n : Nat} {l : List Oper} {b : List Value} (V : List VM) (R : List (Nat × Res)) (u : Nat) (mp : List (Nat × List Nat)) (hV : OblsM P l w0 V R n φ b ((mp.map (·.1)).map (dstOf l)) V) (hok : linOkM l V (mp.map (·.1)) u = true) (hpm : (mp.all fun k => predOkM l V k.1 k.2) = true) (hpv : (V.all fun v => predOkM l V v.i v.vp) = true) (hn : n ≤ b.length)
    (hR : KeepR R σ) (hM : JMM P l Q w0 V R n u mp σ φ b) : JC P (.region id l.toArray true) Q w0 σ φ ⟨n, [], b⟩ := JC_drawM hm V R u mp hok hpm hpv hn hR hV hM
theorem OblM_V {l : List Oper} {V : List VM} {R : List (Nat × Res)} {n i d : Nat} {b : List Value} {dsm vp : List Nat} {st : Bool} {c : Value}
    (h : ∀ (vals us : Nat → Value) (σ : List Res) (ψ : List (Bool × VP)), (st = true → KeepR R σ) → JL P l.toArray (StepQ w0 σ (factsM V vals vp ++ (φ ++ ψ)) ⟨n, pends (VM.ds V) (fixM vp V vals) 0, updsM b dsm us⟩ d (fun x => vPure (x = c))) w0 σ (factsM V vals vp ++ (φ ++ ψ)) ((l.drop i).take 1) ⟨n, pends (VM.ds V) (fixM vp V vals) 0, updsM b dsm us⟩) : OblM P l w0 V R n φ b dsm (vmV i d vp st c) := h
theorem OblM_C {l : List Oper} {V : List VM} {R : List (Nat × Res)} {n i d : Nat} {b : List Value} {dsm vp : List Nat} {st : Bool} {Post : Value → List VP → Prop}
    (h : ∀ (vals us : Nat → Value) (σ : List Res) (ψ : List (Bool × VP)), (st = true → KeepR R σ) → JL P l.toArray (StepQ w0 σ (factsM V vals vp ++ (φ ++ ψ)) ⟨n, pends (VM.ds V) (fixM vp V vals) 0, updsM b dsm us⟩ d (vPost Post)) w0 σ (factsM V vals vp ++ (φ ++ ψ)) ((l.drop i).take 1) ⟨n, pends (VM.ds V) (fixM vp V vals) 0, updsM b dsm us⟩) : OblM P l w0 V R n φ b dsm (vmC i d vp st Post) := h
theorem JL_normM {l : List Oper} {d : Nat} {F : Value → VP} (l' : List Oper) (fr' : Fr) (φ' : List (Bool × VP)) (h0 : l' = l) (h1 : fr' = fr) (h3 : φ' = φ) (h : JL P ops (StepQ w0 σ φ' fr' d F) w0 σ φ' l' fr') : JL P ops (StepQ w0 σ φ fr d F) w0 σ φ l fr := by
  subst h0 h1 h3; exact h
theorem JMM_nm {l : List Oper} {V : List VM} {R : List (Nat × Res)} {n u : Nat} {ms : List (Nat × List Nat)} {b : List Value} (σ' : List Res) (φ' : List (Bool × VP)) (h : JMM P l Q w0 V R n u ms σ' φ' b) (h2 : σ' = σ := by exact rfl) (h3 : φ' = φ := by exact rfl) : JMM P l Q w0 V R n u ms σ φ b := by
  subst h2 h3; exact h
end
end Go.Fw
