/- The program logic's contracts of functions that are handed own slices and may write into them. -/
import Derived.Test.YtfkfmpfohaomhaaGreatFwC
namespace Go.Fw
open Go Go.RowKit

def PostO (w0 : Ctx) (p0 p1 : VP) (Post : Value → List Res → List VP → Prop) (e : Ending) (w' : World) : Prop :=
  ∃ v rout φo, e = .returned v ∧ Post v rout φo ∧ St w0 w' rout (φo.map (fun p => (true, p)) ++ [(false, p0), (true, p1)])
def ConO (P : Program) (f : FuncId) (args : List Value) (rin : List Res) (φin : List VP) (Post : Value → List Res → List VP → Prop) : Prop :=
  ∀ (w0 : Ctx) (p0 p1 : VP) (w : World), St w0 w rin (φin.map (fun p => (true, p)) ++ [(false, p0), (true, p1)]) → Calls P f args.toArray w (PostO w0 p0 p1 Post)
theorem ConO_of {P : Program} {f : FuncId} {fn : Func} {c : Code} {args : List Value} {rin : List Res} {φin : List VP} {Post : Value → List Res → List VP → Prop}
    (hf : P.funcs[f]? = some fn) (hb : fn.body = some c) (n : Nat) (b : List Value) (hfr : args ++ List.replicate (fn.ntmps - args.length) undef = b) (hn : b.length = n)
    (h : ∀ w0 p0 p1, JC P c (bodyPost P fn (PostO w0 p0 p1 Post)) w0 rin (φin.map (fun p => (true, p)) ++ [(false, p0), (true, p1)]) ⟨n, [], b⟩) : ConO P f args rin φin Post := by
  intro w0 p0 p1 w s
  refine calls_of_wp hf hb ?_
  have he : (⟨args.toArray ++ Array.replicate (fn.ntmps - args.toArray.size) undef, []⟩ : Act) = act ⟨n, [], b⟩ := by
    rw [← hn, act_start, ← hfr]; simp
  rw [he]
  exact h w0 p0 p1 w s
section
variable {P : Program} {Q : Exit → Act → World → Prop} {w0 : Ctx} {σ : List Res} {φ : List (Bool × VP)} {fr : Fr} {ops : Array Oper} {rest : List Oper}
  {d : Nat} {ty : TypeId} {pos : String} {aft : Array Edge}
theorem JE_retO {p0 p1 : VP} {fn : Func} {Post : Value → List Res → List VP → Prop} {rs : List ResultVar} {vs : List Value} (φo : List VP) (hr : fn.results = rs.toArray) (hv : RVs P σ fr rs vs) (hP : Post (retOf vs) σ φo) (hφ : ∀ p ∈ φo, (true, p) ∈ φ) (h0 : (false, p0) ∈ φ) (h1 : (true, p1) ∈ φ) :
    JE (bodyPost P fn (PostO w0 p0 p1 Post)) .ret w0 σ φ fr := fun _ s =>
  bodyPost_of (run_results hr hv s) ⟨_, σ, φo, rfl, hP, s.weaken fun p hp => by
    rcases List.mem_append.1 hp with hp | hp
    · obtain ⟨q, hq, rfl⟩ := List.mem_map.1 hp; exact hφ q hq
    · simp only [List.mem_cons, List.not_mem_nil, or_false] at hp
      rcases hp with rfl | rfl
      · exact h0
      · exact h1⟩
theorem JE_endO {p0 p1 : VP} {fn : Func} {Post : Value → List Res → List VP → Prop} {rs : List ResultVar} {vs : List Value} (φo : List VP) (hr : fn.results = rs.toArray) (hv : RVs P σ fr rs vs) (hP : Post (retOf vs) σ φo) (hφ : ∀ p ∈ φo, (true, p) ∈ φ) (h0 : (false, p0) ∈ φ) (h1 : (true, p1) ∈ φ) :
    JE (bodyPost P fn (PostO w0 p0 p1 Post)) .normal w0 σ φ fr := fun _ s =>
  bodyPost_of' (run_results hr hv s) ⟨_, σ, φo, rfl, hP, s.weaken fun p hp => by
    rcases List.mem_append.1 hp with hp | hp
    · obtain ⟨q, hq, rfl⟩ := List.mem_map.1 hp; exact hφ q hq
    · simp only [List.mem_cons, List.not_mem_nil, or_false] at hp
      rcases hp with rfl | rfl
      · exact h0
      · exact h1⟩
/-- What is asked, out of the state. -/
def AsksO (w0 : Ctx) (σ : List Res) (φ : List (Bool × VP)) (φin : List VP) : Prop := ∀ w, St w0 w σ φ → ∀ p ∈ φin, p.holds (Xof w0 σ true) w
theorem AsksO.nil : AsksO w0 σ φ [] := fun _ _ p hp => by cases hp
theorem AsksO.cons {p : VP} {ps : List VP} (h : (true, p) ∈ φ) (h' : AsksO w0 σ φ ps) : AsksO w0 σ φ (p :: ps) := fun w s q hq => by
  rcases List.mem_cons.1 hq with rfl | hq
  · exact s.views _ h
  · exact h' w s q hq
/-- A call that takes all own resources. -/
theorem JL_callO {f : FuncId} {x : Operand} {xs : List Operand} {ts : Array TypeId} {vs : List Value} {φin : List VP} {Post : Value → List Res → List VP → Prop} (hin : AsksO w0 σ φ φin) (con : ConO P f vs σ φin Post) (hf : Ev fr x (.func (.func f) #[] #[])) (hc : callable P f = true) (ha : EvL fr xs vs)
    (k : ∀ v rout φo, Post v rout φo → JL P ops Q w0 rout (mapB true φo φ) rest (upd fr d v)) :
    JL P ops Q w0 σ φ (⟨some d, .call { callee := .value x, args := xs.toArray, argTypes := ts }, ty, pos, aft, none⟩ :: rest) fr := by
  intro w s
  have hs : St w0 w σ (φin.map (fun p => (true, p)) ++ [(false, vList ((φ.filter (fun q => !q.1)).map (·.2))), (true, vList ((φ.filter (fun q => q.1)).map (·.2)))]) := by
    refine ⟨s.base, s.own, s.fresh, s.dist, fun p hp => ?_⟩
    rcases List.mem_append.1 hp with hp | hp
    · obtain ⟨q, hq, rfl⟩ := List.mem_map.1 hp; exact hin w s q hq
    · simp only [List.mem_cons, List.not_mem_nil, or_false] at hp
      rcases hp with rfl | rfl
      · intro p hp
        obtain ⟨⟨b, q⟩, hq, rfl⟩ := List.mem_map.1 hp
        obtain ⟨h1, h2⟩ := List.mem_filter.1 hq
        cases b with
        | false => exact s.views _ h1
        | true => simp at h2
      · intro p hp
        obtain ⟨⟨b, q⟩, hq, rfl⟩ := List.mem_map.1 hp
        obtain ⟨h1, h2⟩ := List.mem_filter.1 hq
        cases b with
        | true => exact s.views _ h1
        | false => simp at h2
  refine wpList_call hf hc ha (con w0 _ _ w hs) ?_
  rintro e w' ⟨v, rout, φo, rfl, hP, s'⟩
  refine ⟨v, rfl, k v rout φo hP w' ⟨s'.base, s'.own, s'.fresh, s'.dist, fun p hp => ?_⟩⟩
  rw [mapB_eq] at hp
  rcases List.mem_append.1 hp with hp | hp
  · exact s'.views p (List.mem_append_left _ hp)
  · obtain ⟨b, q⟩ := p
    cases b with
    | false =>
      have := s'.views _ (List.mem_append_right _ List.mem_cons_self)
      exact this q (List.mem_map.2 ⟨_, List.mem_filter.2 ⟨hp, rfl⟩, rfl⟩)
    | true =>
      have := s'.views _ (List.mem_append_right _ (List.mem_cons_of_mem _ List.mem_cons_self))
      exact this q (List.mem_map.2 ⟨_, List.mem_filter.2 ⟨hp, rfl⟩, rfl⟩)
end
end Go.Fw
