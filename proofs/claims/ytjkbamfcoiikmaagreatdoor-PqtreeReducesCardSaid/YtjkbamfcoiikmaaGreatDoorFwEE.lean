/- The program logic: calls beside other resources: of functions that are handed none and hand back own ones; of functions that are handed the last ones. -/
import Derived.Test.YtjkbamfcoiikmaaGreatDoorFwXY
namespace Go.Fw
open Go Go.RowKit
section
variable {P : Program} {Q : Exit → Act → World → Prop} {w0 : Ctx} {σ σ1 : List Res} {φ : List (Bool × VP)} {fr : Fr} {ops : Array Oper} {rest : List Oper}
  {d : Nat} {ty : TypeId} {pos : String} {aft : Array Edge}
/-- A call that is handed no own resource, beside whatever there is: what it hands back is put last. -/
theorem JL_callO0 {f : FuncId} {x : Operand} {xs : List Operand} {ts : Array TypeId} {vs : List Value} {φin : List VP} {Post : Value → List Res → List VP → Prop} (hin : AsksO w0 σ φ φin) (con : ConO P f vs [] φin Post) (hf : Ev fr x (.func (.func f) #[] #[])) (hc : callable P f = true) (ha : EvL fr xs vs)
    (k : ∀ v rout φo, Post v rout φo → JL P ops Q w0 (σ ++ rout) (mapB true φo φ) rest (upd fr d v)) :
    JL P ops Q w0 σ φ (⟨some d, .call { callee := .value x, args := xs.toArray, argTypes := ts }, ty, pos, aft, none⟩ :: rest) fr := by
  intro w s
  have hkey : ∀ q ∈ σ, ∀ j, q.key = some j → j < w.heap.size := fun q hq j hj => q.lt w (s.own q hq) j hj
  let c0 : Ctx := ⟨w, fun k => w0.Y k ∨ ∃ q ∈ σ, q.key = some k, fun k hk => by
    rcases hk with hk | ⟨q, hq, hk⟩
    · exact Nat.lt_of_lt_of_le (w0.hY k hk) s.base.size
    · exact hkey q hq k hk⟩
  have hs : St c0 w [] (φin.map (fun p => (true, p)) ++ [(false, vPure True), (true, vPure True)]) := by
    refine ⟨Below.refl _ _, fun q hq => (by cases hq), fun q hq => (by cases hq), List.Pairwise.nil, fun p hp => ?_⟩
    rcases List.mem_append.1 hp with hp | hp
    · obtain ⟨q, hq, rfl⟩ := List.mem_map.1 hp
      refine q.mono _ _ w w (hin w s q hq) (Nat.le_refl _) (fun _ _ _ => rfl) fun k _ hX => ?_
      rcases hX with ⟨q', hq', _⟩ | ⟨_, hY | hK⟩
      · cases hq'
      · exact .inr ⟨rfl, hY⟩
      · exact .inl hK
    · simp only [List.mem_cons, List.not_mem_nil, or_false] at hp
      rcases hp with rfl | rfl <;> exact trivial
  refine wpList_call hf hc ha (con c0 _ _ w hs) ?_
  rintro e w' ⟨v, rout, φo, rfl, hP, s'⟩
  have hb : Below w.heap.size w w' := s'.base
  have hfr : ∀ q ∈ rout, ∀ j, q.key = some j → w.heap.size ≤ j := s'.fresh
  refine ⟨v, rfl, k v rout φo hP w' ⟨s.base.trans (hb.mono s.base.size), fun q hq => ?_, fun q hq j hj => ?_, ?_, fun p hp => ?_⟩⟩
  · rcases List.mem_append.1 hq with hq | hq
    · exact q.mono w w' (s.own q hq) fun j hj => hb.block j (hkey q hq j hj)
    · exact s'.own q hq
  · rcases List.mem_append.1 hq with hq | hq
    · exact s.fresh q hq j hj
    · exact Nat.le_trans s.base.size (hfr q hq j hj)
  · refine List.pairwise_append.2 ⟨s.dist, s'.dist, fun q hq r hr j hj hj' => ?_⟩
    have := hkey q hq j hj
    have := hfr r hr j hj'
    omega
  · rw [mapB_eq] at hp
    rcases List.mem_append.1 hp with hp | hp
    · obtain ⟨q, hq, rfl⟩ := List.mem_map.1 hp
      refine q.mono _ _ w' w' (s'.views (true, q) (List.mem_append_left _ (List.mem_map.2 ⟨q, hq, rfl⟩))) (Nat.le_refl _) (fun _ _ _ => rfl) fun k _ hX => ?_
      rcases hX with ⟨q', hq', hk⟩ | ⟨_, hY⟩
      · rcases List.mem_append.1 hq' with hq' | hq'
        · exact .inr ⟨rfl, .inr ⟨q', hq', hk⟩⟩
        · exact .inl ⟨q', hq', hk⟩
      · exact .inr ⟨rfl, .inl hY⟩
    · refine p.2.mono _ _ w w' (s.views p hp) hb.size (fun j hj _ => hb.block j hj) fun j hj hX => ?_
      rcases hX with ⟨q', hq', hk⟩ | hY
      · rcases List.mem_append.1 hq' with hq' | hq'
        · exact .inl ⟨q', hq', hk⟩
        · have := hfr q' hq' j hk; omega
      · exact .inr hY
/-- The other resources, as a view. -/
def vFrameL (σ : List Res) : VP := ⟨fun X w => ∀ s ∈ σ, s.holds w ∧ ∀ k, s.key = some k → ¬ X k, fun _ _ w w' h _ hb hx s hs => by
  obtain ⟨h1, h2⟩ := h s hs
  exact ⟨s.mono w w' h1 fun k hk => hb k (s.lt w h1 k hk) (h2 k hk), fun k hk hX => h2 k hk (hx k (s.lt w h1 k hk) hX)⟩⟩
/-- A call that is handed the last own resources, and no data; what data it hands back is not looked at. -/
theorem JL_callOL {f : FuncId} {x : Operand} {xs : List Operand} {ts : Array TypeId} {vs : List Value} {rin : List Res} {Post : Value → List Res → List VP → Prop} (con : ConO P f vs rin [] Post)
    (hf : Ev fr x (.func (.func f) #[] #[])) (hc : callable P f = true) (ha : EvL fr xs vs)
    (k : ∀ v rout φo, Post v rout φo → JL P ops Q w0 (σ1 ++ rout) φ rest (upd fr d v)) :
    JL P ops Q w0 (σ1 ++ rin) φ (⟨some d, .call { callee := .value x, args := xs.toArray, argTypes := ts }, ty, pos, aft, none⟩ :: rest) fr := by
  intro w s
  let K : Nat → Prop := fun k => ∃ q ∈ σ1, q.key = some k
  obtain ⟨d1, d2, d3⟩ := List.pairwise_append.1 s.dist
  have hsub : ∀ b k, (Xof w0 rin b k ∨ K k) → Xof w0 (σ1 ++ rin) b k := by
    rintro b k ((⟨q, hq, hk⟩ | hY) | ⟨q, hq, hk⟩)
    · exact .inl ⟨q, List.mem_append_right _ hq, hk⟩
    · exact .inr hY
    · exact .inl ⟨q, List.mem_append_left _ hq, hk⟩
  have hs : St w0 w rin (([] : List VP).map (fun p => (true, p)) ++ [(false, vAnd (vFrameL σ1) (vList ((φ.filter (fun q => !q.1)).map (fun q => vUn K q.2)))), (true, vList ((φ.filter (fun q => q.1)).map (fun q => vUn K q.2)))]) := by
    refine ⟨s.base, fun q hq => s.own q (List.mem_append_right _ hq), fun q hq => s.fresh q (List.mem_append_right _ hq), d2, fun p hp => ?_⟩
    simp only [List.map_nil, List.nil_append, List.mem_cons, List.not_mem_nil, or_false] at hp
    rcases hp with rfl | rfl
    · refine ⟨fun q hq => ⟨s.own q (List.mem_append_left _ hq), fun k hk hX => ?_⟩, fun p hp => ?_⟩
      · rcases hX with ⟨q', hq', hk'⟩ | ⟨h, _⟩
        · exact d3 q hq q' hq' k hk hk'
        · cases h
      · obtain ⟨⟨b, q⟩, hq, rfl⟩ := List.mem_map.1 hp
        obtain ⟨h1, h2⟩ := List.mem_filter.1 hq
        cases b with
        | true => simp at h2
        | false => exact q.mono _ _ w w (s.views _ h1) (Nat.le_refl _) (fun _ _ _ => rfl) fun k _ h => hsub false k h
    · intro p hp
      obtain ⟨⟨b, q⟩, hq, rfl⟩ := List.mem_map.1 hp
      obtain ⟨h1, h2⟩ := List.mem_filter.1 hq
      cases b with
      | false => simp at h2
      | true => exact q.mono _ _ w w (s.views _ h1) (Nat.le_refl _) (fun _ _ _ => rfl) fun k _ h => hsub true k h
  refine wpList_call hf hc ha (con w0 _ _ w hs) ?_
  rintro e w' ⟨v, rout, φo, rfl, hPo, s'⟩
  have v0 := s'.views (false, vAnd (vFrameL σ1) (vList ((φ.filter (fun q => !q.1)).map (fun q => vUn K q.2)))) (List.mem_append_right _ List.mem_cons_self)
  have v1 := s'.views (true, vList ((φ.filter (fun q => q.1)).map (fun q => vUn K q.2))) (List.mem_append_right _ (List.mem_cons_of_mem _ List.mem_cons_self))
  have hfr : ∀ q ∈ σ1, q.holds w' ∧ ∀ k, q.key = some k → ¬ Xof w0 rout false k := v0.1
  have hsub2 : ∀ b k, Xof w0 (σ1 ++ rout) b k → Xof w0 rout b k ∨ K k := by
    rintro b k (⟨q, hq, hk⟩ | hY)
    · rcases List.mem_append.1 hq with hq | hq
      · exact .inr ⟨q, hq, hk⟩
      · exact .inl (.inl ⟨q, hq, hk⟩)
    · exact .inl (.inr hY)
  refine ⟨v, rfl, k v rout φo hPo w' ⟨s'.base, fun q hq => ?_, fun q hq j hj => ?_, ?_, fun p hp => ?_⟩⟩
  · rcases List.mem_append.1 hq with hq | hq
    · exact (hfr q hq).1
    · exact s'.own q hq
  · rcases List.mem_append.1 hq with hq | hq
    · exact s.fresh q (List.mem_append_left _ hq) j hj
    · exact s'.fresh q hq j hj
  · refine List.pairwise_append.2 ⟨d1, s'.dist, fun q hq r hr j hj hj' => ?_⟩
    exact (hfr q hq).2 j hj (.inl ⟨r, hr, hj'⟩)
  · obtain ⟨b, q⟩ := p
    cases b with
    | false =>
      have h0 : (vUn K q).holds (Xof w0 rout false) w' := v0.2 _ (List.mem_map.2 ⟨(false, q), List.mem_filter.2 ⟨hp, rfl⟩, rfl⟩)
      exact q.mono _ _ w' w' h0 (Nat.le_refl _) (fun _ _ _ => rfl) fun k _ h => hsub2 false k h
    | true =>
      have h0 : (vUn K q).holds (Xof w0 rout true) w' := v1 _ (List.mem_map.2 ⟨(true, q), List.mem_filter.2 ⟨hp, rfl⟩, rfl⟩)
      exact q.mono _ _ w' w' h0 (Nat.le_refl _) (fun _ _ _ => rfl) fun k _ h => hsub2 true k h
theorem JL_eqlPtr {t t' : TypeId} {x y : Operand} {p : Option Addr} (hu : P.underlying t = some (.pointer (P.pointee t))) (hx : Ev fr x (.pointer p)) (hy : Ev fr y (.pointer none))
    (k : JL P ops Q w0 σ φ rest (upd fr d (.bool p.isNone))) : JL P ops Q w0 σ φ (⟨some d, .binOp .eql t x y t', ty, pos, aft, none⟩ :: rest) fr :=
  JL_pure _ (fun w => by simp only [execOp, hx.eq, hy.eq, eqGuard_at_pointer, Sem.run_bind, Sem.run_pure, run_eql_pointer_nil w t p hu, Result.andThen_ok]) k
end
end Go.Fw

/- The program logic: own resources in another order; contracts of functions whose result shares memory, where nothing but the answer matters. -/
namespace Go.Fw
open Go Go.RowKit
section
variable {P : Program} {Q : Exit → Act → World → Prop} {w0 : Ctx} {σ σ' : List Res} {φ : List (Bool × VP)} {fr : Fr} {ops : Array Oper} {rest : List Oper}
/-- The first k resources are put last. -/
theorem JL_rot (k : Nat) (h : JL P ops Q w0 (σ.drop k ++ σ.take k) φ rest fr) : JL P ops Q w0 σ φ rest fr :=
  JL_conv (fun _ s => s.perm (by
    have := List.perm_append_comm (l₁ := σ.drop k) (l₂ := σ.take k)
    rwa [List.take_append_drop] at this)) h
theorem ConA.conF {f : FuncId} {args : List Value} {φin : List VP} {Post : Value → List VP → Prop} (h : ConA P f args φin Post) (h0 : ∀ v φo, Post v φo → φo = []) : ConF P f args φin Post := by
  intro w hin
  refine (h w (fun _ => False) (fun _ h => h.elim) hin).mono ?_
  rintro e w' ⟨v, φo, rfl, hP, hb, hv⟩
  exact ⟨v, φo, rfl, hP, hb, fun p hp => by rw [h0 v φo hP] at hp; cases hp⟩
def swapAt {α : Type} : Nat → List α → List α
  | 0, a :: b :: l => b :: a :: l
  | i + 1, a :: l => a :: swapAt i l
  | _, l => l
theorem swapAt_perm {α : Type} : ∀ (i : Nat) (l : List α), (swapAt i l).Perm l
  | 0, [] => .refl _
  | 0, [_] => .refl _
  | 0, _ :: _ :: _ => .swap _ _ _
  | _ + 1, [] => .refl _
  | i + 1, a :: l => (swapAt_perm i l).cons a
theorem JE_swap {e : Exit} (i : Nat) (h : JE Q e w0 (swapAt i σ) φ fr) : JE Q e w0 σ φ fr := JE_conv (fun _ s => s.perm (swapAt_perm i σ)) h
variable {d : Nat} {ty : TypeId} {pos : String} {aft : Array Edge}
/-- A call that is handed no own resource, and reads whatever there is; what data it hands back is not looked at. -/
theorem JL_callON {f : FuncId} {x : Operand} {xs : List Operand} {ts : Array TypeId} {vs : List Value} {φin : List VP} {Post : Value → List Res → List VP → Prop} (hin : Asks w0 σ φ φin) (con : ConO P f vs [] φin Post) (hf : Ev fr x (.func (.func f) #[] #[])) (hc : callable P f = true) (ha : EvL fr xs vs)
    (k : ∀ v rout φo, Post v rout φo → JL P ops Q w0 (σ ++ rout) φ rest (upd fr d v)) :
    JL P ops Q w0 σ φ (⟨some d, .call { callee := .value x, args := xs.toArray, argTypes := ts }, ty, pos, aft, none⟩ :: rest) fr := by
  intro w s
  have hkey : ∀ q ∈ σ, ∀ j, q.key = some j → j < w.heap.size := fun q hq j hj => q.lt w (s.own q hq) j hj
  let c0 : Ctx := ⟨w, fun _ => False, fun _ h => h.elim⟩
  have hs : St c0 w [] (φin.map (fun p => (true, p)) ++ [(false, vPure True), (true, vPure True)]) := by
    refine ⟨Below.refl _ _, fun q hq => (by cases hq), fun q hq => (by cases hq), List.Pairwise.nil, fun p hp => ?_⟩
    rcases List.mem_append.1 hp with hp | hp
    · obtain ⟨q, hq, rfl⟩ := List.mem_map.1 hp
      refine q.mono _ _ w w (hin w s q hq) (Nat.le_refl _) (fun _ _ _ => rfl) fun k _ hX => ?_
      rcases hX with ⟨q', hq', _⟩ | ⟨_, hY⟩
      · cases hq'
      · exact hY.elim
    · simp only [List.mem_cons, List.not_mem_nil, or_false] at hp
      rcases hp with rfl | rfl <;> exact trivial
  refine wpList_call hf hc ha (con c0 _ _ w hs) ?_
  rintro e w' ⟨v, rout, φo, rfl, hP, s'⟩
  have hb : Below w.heap.size w w' := s'.base
  have hfr : ∀ q ∈ rout, ∀ j, q.key = some j → w.heap.size ≤ j := s'.fresh
  refine ⟨v, rfl, k v rout φo hP w' ⟨s.base.trans (hb.mono s.base.size), fun q hq => ?_, fun q hq j hj => ?_, ?_, fun p hp => ?_⟩⟩
  · rcases List.mem_append.1 hq with hq | hq
    · exact q.mono w w' (s.own q hq) fun j hj => hb.block j (hkey q hq j hj)
    · exact s'.own q hq
  · rcases List.mem_append.1 hq with hq | hq
    · exact s.fresh q hq j hj
    · exact Nat.le_trans s.base.size (hfr q hq j hj)
  · refine List.pairwise_append.2 ⟨s.dist, s'.dist, fun q hq r hr j hj hj' => ?_⟩
    have := hkey q hq j hj
    have := hfr r hr j hj'
    omega
  · refine p.2.mono _ _ w w' (s.views p hp) hb.size (fun j hj _ => hb.block j hj) fun j hj hX => ?_
    rcases hX with ⟨q', hq', hk⟩ | hY
    · rcases List.mem_append.1 hq' with hq' | hq'
      · exact .inl ⟨q', hq', hk⟩
      · have := hfr q' hq' j hk; omega
    · exact .inr hY
end
end Go.Fw
