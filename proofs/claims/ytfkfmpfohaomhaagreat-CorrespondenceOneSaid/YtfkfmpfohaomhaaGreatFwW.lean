/- The program logic: a call that is handed the last own slice, beside other resources. -/
import Derived.Test.YtfkfmpfohaomhaaGreatFwV
namespace Go.Fw
open Go Go.RowKit
section
variable {P : Program} {Q : Exit → Act → World → Prop} {w0 : Ctx} {σ σ' : List Res} {φ φ' : List (Bool × VP)} {fr : Fr} {ops : Array Oper} {rest : List Oper}
  {d : Nat} {ty : TypeId} {pos : String} {aft : Array Edge}
theorem JL_appendF {t e : TypeId} {sz by' : Nat} {zs : List Value} {x y : Operand} {ad ad2 : Option Addr} {n cap m c : Nat} {xs news : List Value} (hs : slOf P t = some (e, sz, by', zs)) (hz : zs.length = sz) (hsz : 0 < sz)
    (hx : Ev fr x (.slice ad n cap)) (hy : Ev fr y (.slice ad2 m c)) (hv : Reads w0 σ φ ad xs) (hxl : xs.length = n * sz) (hcap : cap = n) (hm : 0 < m) (hl : news.length = m * sz) (hr : Reads w0 σ φ ad2 news)
    (h63 : n + m ≤ 9223372036854775807) (hbytes : (n + m) * by' ≤ 140737488355328)
    (k : ∀ g, (∀ q ∈ σ, ∀ j, q.key = some j → j < g) → ∀ cap', JL P ops Q w0 (σ ++ [osl (some ⟨g, 0, none⟩) (n + m) cap' e sz (xs ++ news)]) φ rest (upd fr d (.slice (some ⟨g, 0, none⟩) (n + m) cap'))) :
    JL P ops Q w0 σ φ (⟨some d, .call { callee := .builtin .append, args := #[x, y], argTypes := #[t, t] }, ty, pos, aft, none⟩ :: rest) fr := by
  intro w s
  obtain ⟨X, hc⟩ := hr w s
  obtain ⟨X', hvw⟩ := hv w s
  obtain ⟨cap', w', hrun, hbel, hown⟩ := run_append_own (ty := ty) (c := c) hs hz hsz hvw hxl hcap hm hl hc.src h63 hbytes
  refine wpList_run rfl rfl (by rw [exec_append hx hy, hrun]; rfl) (k _ (fun q hq j hj => q.lt w (s.own q hq) j hj) cap' w' ?_)
  refine s.addRes _ hbel hown fun k hk => ?_
  simp only [osl, Value.ownBlock, Option.some.injEq] at hk
  omega
theorem JL_callOF {f : FuncId} {x : Operand} {xs : List Operand} {ts : Array TypeId} {vs : List Value} {Post : Value → List Res → List VP → Prop} {σ1 : List Res} {r : Res} {g : Nat} (con : ConO P f vs [r] [] Post) (hg : r.key = some g) (hlt : ∀ q ∈ σ1, ∀ j, q.key = some j → j < g)
    (hf : Ev fr x (.func (.func f) #[] #[])) (hc : callable P f = true) (ha : EvL fr xs vs)
    (k : ∀ v rout φo, Post v rout φo → JL P ops Q w0 (σ1 ++ rout) (φo.map (fun p => (false, p)) ++ φ.map (fun p => (false, p.2))) rest (upd fr d v)) :
    JL P ops Q w0 (σ1 ++ [r]) φ (⟨some d, .call { callee := .value x, args := xs.toArray, argTypes := ts }, ty, pos, aft, none⟩ :: rest) fr := by
  intro w s
  have hr : r.holds w := s.own r (List.mem_append_right _ List.mem_cons_self)
  have hgw : g < w.heap.size := r.lt w hr g hg
  have hg0 : w0.w.heap.size ≤ g := s.fresh r (List.mem_append_right _ List.mem_cons_self) g hg
  let W : World := { w with heap := w.heap.extract 0 g }
  have hWs : W.heap.size = g := by show (w.heap.extract 0 g).size = g; rw [Array.size_extract]; omega
  have hWb : ∀ k, k < g → W.heap[k]? = w.heap[k]? := fun k hk => by
    show (w.heap.extract 0 g)[k]? = _
    rw [Array.getElem?_extract]
    simp; omega
  let c0 : Ctx := ⟨W, fun k => ∃ q ∈ σ1, q.key = some k, fun k ⟨q, hq, hk⟩ => by rw [hWs]; exact hlt q hq k hk⟩
  have hs : St c0 w [r] (([] : List VP).map (fun p => (true, p)) ++ [(false, vList []), (true, vList (φ.map (·.2)))]) := by
    refine ⟨⟨rfl, rfl, rfl, by show W.heap.size ≤ _; omega, fun k hk => (hWb k (by rw [← hWs]; exact hk)).symm⟩, fun q hq => by obtain rfl := List.mem_singleton.1 hq; exact hr, fun q hq k hk => by
      obtain rfl := List.mem_singleton.1 hq
      rw [hg] at hk
      obtain rfl := Option.some.inj hk
      show W.heap.size ≤ _; omega, List.pairwise_singleton _ _, fun p hp => ?_⟩
    simp only [List.map_nil, List.nil_append, List.mem_cons, List.not_mem_nil, or_false] at hp
    rcases hp with rfl | rfl
    · intro p hp; cases hp
    · intro p hp
      obtain ⟨⟨b, q⟩, hq, rfl⟩ := List.mem_map.1 hp
      refine q.mono _ _ w w (s.views _ hq) (Nat.le_refl _) (fun _ _ _ => rfl) fun k _ hX => ?_
      rcases hX with ⟨q', hq', hk⟩ | ⟨_, q', hq', hk⟩
      · exact .inl ⟨q', List.mem_append_right _ hq', hk⟩
      · exact .inl ⟨q', List.mem_append_left _ hq', hk⟩
  refine wpList_call hf hc ha (con c0 _ _ w hs) ?_
  rintro e w' ⟨v, rout, φo, rfl, hP, s'⟩
  have hblk : ∀ k, k < g → w'.heap[k]? = w.heap[k]? := fun k hk => (s'.base.block k (by show k < W.heap.size; omega)).trans (hWb k hk)
  have hsz : g ≤ w'.heap.size := by have := s'.base.size; rw [← hWs]; exact this
  refine ⟨v, rfl, k v rout φo hP w' ⟨⟨s'.base.os.trans s.base.os, s'.base.tape.trans s.base.tape, s'.base.output.trans s.base.output, by omega, fun k hk => (hblk k (by omega)).trans (s.base.block k hk)⟩, fun q hq => ?_, fun q hq j hj => ?_, ?_, fun p hp => ?_⟩⟩
  · rcases List.mem_append.1 hq with hq | hq
    · exact q.mono w w' (s.own q (List.mem_append_left _ hq)) fun j hj => hblk j (hlt q hq j hj)
    · exact s'.own q hq
  · rcases List.mem_append.1 hq with hq | hq
    · exact s.fresh q (List.mem_append_left _ hq) j hj
    · have h1 : W.heap.size ≤ j := s'.fresh q hq j hj
      omega
  · refine List.pairwise_append.2 ⟨(List.pairwise_append.1 s.dist).1, s'.dist, fun a ha b hb j hj hj' => ?_⟩
    have h1 := hlt a ha j hj
    have h2 : W.heap.size ≤ j := s'.fresh b hb j hj'
    omega
  · rcases List.mem_append.1 hp with hp | hp
    · obtain ⟨q, hq, rfl⟩ := List.mem_map.1 hp
      refine q.mono _ _ w' w' (s'.views _ (List.mem_append_left _ (List.mem_map.2 ⟨q, hq, rfl⟩))) (Nat.le_refl _) (fun _ _ _ => rfl) fun j _ hX => ?_
      rcases hX with ⟨q', hq', hk⟩ | ⟨hh, _⟩
      · rcases List.mem_append.1 hq' with hq' | hq'
        · exact .inr ⟨rfl, q', hq', hk⟩
        · exact .inl ⟨q', hq', hk⟩
      · cases hh
    · obtain ⟨⟨b, q⟩, hq, rfl⟩ := List.mem_map.1 hp
      have hall := s'.views (true, vList (φ.map (·.2))) (List.mem_append_right _ (List.mem_cons_of_mem _ List.mem_cons_self))
      refine q.mono _ _ w' w' (hall q (List.mem_map.2 ⟨_, hq, rfl⟩)) (Nat.le_refl _) (fun _ _ _ => rfl) fun j _ hX => ?_
      rcases hX with ⟨q', hq', hk⟩ | ⟨hh, _⟩
      · rcases List.mem_append.1 hq' with hq' | hq'
        · exact .inr ⟨rfl, q', hq', hk⟩
        · exact .inl ⟨q', hq', hk⟩
      · cases hh
end
end Go.Fw
