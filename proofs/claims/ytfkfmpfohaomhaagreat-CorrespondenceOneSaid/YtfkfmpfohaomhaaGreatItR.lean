/- maps.Keys, slices.Collect and slices.SortedFunc at pairs. -/
import Derived.Test.YtfkfmpfohaomhaaGreatItPQ
import Derived.Test.YtfkfmpfohaomhaaGreatCoO
namespace Go.Fw.K
open Go Go.RowKit Go.Proofs Go.Fw
set_option maxHeartbeats 1000000 in
theorem keysP_calls (b : Nat) (w : World) : Calls Tryz.prog 56 #[.map (some b)] w fun e w' =>
    e = .returned (.func (.func 91) #[] #[.pointer (some ⟨w.heap.size, 0, none⟩)]) ∧ w' = w.alloc (.cells #[.map (some b)] 71) := by
  go_enter Tryz.func56, Tryz.ntmps56
  go_wp2
  go_ret
  exact ⟨rfl, rfl⟩
abbrev keysFn (B : Nat) : Value := .func (.func 91) #[] #[.pointer (some ⟨B, 0, none⟩)]
theorem keysP_con {b : Nat} : ConF Tryz.prog 56 [.map (some b)] [] (fun v φo => ∃ B, v = keysFn B ∧ φo = [vCells (some ⟨B, 0, none⟩) [.map (some b)]]) := fun w _ => by
  refine (keysP_calls b w).mono ?_
  rintro e w' ⟨rfl, rfl⟩
  refine ⟨_, _, rfl, ⟨w.heap.size, rfl, rfl⟩, below_alloc w _, fun p hp => ?_⟩
  obtain rfl := List.mem_singleton.1 hp
  intro j u hj
  refine ⟨w.heap.size, 0, rfl, Nat.lt_irrefl _, ?_⟩
  rw [cell_box (T := 71) (cs := [.map (some b)]) (World.alloc_heap_new w _), Nat.zero_add]; exact hj
abbrev bothFn : Value := .func (.func 57) #[] #[]
set_option maxHeartbeats 1000000 in
theorem sortedP_con {B b : Nat} {l : List (Pr × Int)} (hN : l.length ≤ 1000000) : ConF Tryz.prog 55 [keysFn B, bothFn]
    [vCells (some ⟨B, 0, none⟩) [.map (some b)], vMap b (mE pv iv l 0) l.length]
    (fun v φo => ∃ (ad : Option Addr) (cap : Nat) (d : List Pr), v = .slice ad d.length cap ∧ d.Perm (l.map (·.1)) ∧ (∀ i j, i < j → j < d.length → ¬ ltP (d.getD j dP) (d.getD i dP)) ∧ φo = [vCells ad (pcells d)] ∧ d.length ≤ cap ∧ cap ≤ 9223372036854775807) := fun w hin => by
  have s0 : St (allOld w) w [] ([vCells (some ⟨B, 0, none⟩) [.map (some b)], vMap b (mE pv iv l 0) l.length].map (fun p => (false, p)) ++ [(false, vPure True), (true, vPure True)]) :=
    (St.start hin).addViews (ψ := [(false, vPure True), (true, vPure True)]) fun p hp => by
      simp only [List.mem_cons, List.not_mem_nil, or_false] at hp
      rcases hp with rfl | rfl <;> exact True.intro
  have hcol : Calls Tryz.prog 89 #[keysFn B] w (PostO (allOld w) (vPure True) (vPure True) (fun v rout φo => φo = [] ∧ ∃ (ad : Option Addr) (cap : Nat) (L : List Pr), v = .slice ad L.length cap ∧ L.Perm (l.map (·.1)) ∧ rout = [osl ad L.length cap 57 2 (pcells L)])) := by
    go_enter Tryz.func89, Tryz.ntmps89
    go_wp2_with (go_at_call 109; refine (appP_con hN _ _ _ _ s0).mono ?_; rintro e w' ⟨v, rout, φo, rfl, ⟨hφ, ad, cap, L, rfl, hp, hr⟩, s1⟩)
    go_ret
    exact ⟨_, rout, φo, rfl, ⟨hφ, ad, cap, L, rfl, hp, hr⟩, s1⟩
  go_enter Tryz.func55, Tryz.ntmps55
  go_wp2_with (first
    | (go_at_call 89; refine hcol.mono ?_; rintro e w1 ⟨v, rout, φo, rfl, ⟨rfl, ad, cap, L, rfl, hp, rfl⟩, s1⟩
       have hL : L.length ≤ 1000000 := by rw [hp.length_eq, List.length_map]; exact hN)
    | (go_at_call 90; refine (sort_con (ad := ad) (cap := cap) hL _ _ _ _ s1).mono ?_; rintro e w2 ⟨v, rout, φo, rfl, ⟨rfl, rfl, d, hd, hdl, hs, rfl⟩, s2⟩))
  go_ret
  have hc := osl_cap (s2.own _ List.mem_cons_self)
  have s3 := s2.give 0 rfl
  refine ⟨_, _, rfl, ⟨ad, cap, d, by rw [hdl]; rfl, hd.trans hp, hs, rfl, by rw [hdl]; exact hc.1, hc.2⟩, s3.base, fun p hp => ?_⟩
  obtain rfl := List.mem_singleton.1 hp
  exact (vCells ad (pcells d)).mono _ _ w2 w2 (s3.views _ List.mem_cons_self) (Nat.le_refl _) (fun _ _ _ => rfl) fun k _ hk => .inr ⟨rfl, hk⟩
end Go.Fw.K
