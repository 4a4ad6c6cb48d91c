/- The program logic: a call of a function value with captured own boxes: it takes all own resources. -/
import Derived.Test.YtjkbamfcoiikmaaGreatDoorFwEE
import Derived.Test.YtjkbamfcoiikmaaGreatDoorFwQS
namespace Go.Fw
open Go Go.RowKit
section
variable {P : Program} {Q : Exit → Act → World → Prop} {w0 : Ctx} {σ : List Res} {φ : List (Bool × VP)} {fr : Fr} {ops : Array Oper} {rest : List Oper}
  {d : Nat} {ty : TypeId} {pos : String} {aft : Array Edge}
theorem JL_callOD {f : FuncId} {x : Operand} {xs : List Operand} {ts : Array TypeId} {vs caps : List Value} {φin : List VP} {Post : Value → List Res → List VP → Prop} (hin : AsksO w0 σ φ φin) (con : ConO P f (vs ++ caps) σ φin Post) (hf : Ev fr x (.func (.func f) #[] caps.toArray)) (hc : callable P f = true) (ha : EvL fr xs vs)
    (k : ∀ v rout φo, Post v rout φo → JL P ops Q w0 rout (mapB true φo φ) rest (upd fr d v)) :
    JL P ops Q w0 σ φ (⟨some d, .call { callee := .value x, args := xs.toArray, argTypes := ts }, ty, pos, aft, none⟩ :: rest) fr := by
  intro w s
  have hs : St w0 w σ (φin.map (fun p => (true, p)) ++ [(false, vList ((φ.filter (fun q => !q.1)).map (·.2))), (true, vList ((φ.filter (fun q => q.1)).map (·.2)))]) := by
    refine ⟨s.base, s.own, s.fresh, s.dist, fun p hp => ?_⟩
    rcases List.mem_append.1 hp with hp | hp
    · obtain ⟨q, hq, rfl⟩ := List.mem_map.1 hp; exact hin w s q hq
    · simp only [List.mem_cons, List.not_mem_nil, or_false] at hp
      rcases hp with rfl | rfl
      · intro p hp
        obtain ⟨⟨b, q⟩, hq, rfl⟩ := List.mem_map.1 hp
        obtain ⟨h1, h2⟩ := List.mem_filter.1 hq
        cases b with
        | false => exact s.views _ h1
        | true => simp at h2
      · intro p hp
        obtain ⟨⟨b, q⟩, hq, rfl⟩ := List.mem_map.1 hp
        obtain ⟨h1, h2⟩ := List.mem_filter.1 hq
        cases b with
        | true => exact s.views _ h1
        | false => simp at h2
  have base : wpList P ops Q (⟨some d, .call { callee := .value x, args := xs.toArray, argTypes := ts }, ty, pos, aft, none⟩ :: rest) (act fr) w := by
    refine wpList_plain rfl fun K hK => ?_
    unfold Oper.wp
    rw [act_eval_fun, exec_callD hf hc ha.eq]
    refine (con w0 _ _ w hs).mono ?_
    rintro e w' ⟨v, rout, φo, rfl, hP, s'⟩
    show K ((act fr).put (some d) v) w'
    rw [act_put]
    refine hK _ _ (k v rout φo hP w' ⟨s'.base, s'.own, s'.fresh, s'.dist, fun p hp => ?_⟩)
    rw [mapB_eq] at hp
    rcases List.mem_append.1 hp with hp | hp
    · exact s'.views p (List.mem_append_left _ hp)
    · obtain ⟨b, q⟩ := p
      cases b with
      | false =>
        have := s'.views _ (List.mem_append_right _ List.mem_cons_self)
        exact this q (List.mem_map.2 ⟨_, List.mem_filter.2 ⟨hp, rfl⟩, rfl⟩)
      | true =>
        have := s'.views _ (List.mem_append_right _ (List.mem_cons_of_mem _ List.mem_cons_self))
        exact this q (List.mem_map.2 ⟨_, List.mem_filter.2 ⟨hp, rfl⟩, rfl⟩)
  exact base
end
end Go.Fw
