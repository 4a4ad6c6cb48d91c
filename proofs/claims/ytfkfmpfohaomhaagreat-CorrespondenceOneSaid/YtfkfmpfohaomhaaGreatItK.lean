/- maps.Keys, slices.Collect and slices.Sorted at numbers. -/
import Derived.Test.YtfkfmpfohaomhaaGreatItEJ
import Derived.Test.YtfkfmpfohaomhaaGreatCcP
import Derived.ProofKit
namespace Go.Fw
theorem srtI_congr {L M : List Int} (h : L.Perm M) : srtI L = srtI M :=
  ((srtI_perm L).trans (h.trans (srtI_perm M).symm)).eq_of_pairwise (fun _ _ _ _ h1 h2 => Int.le_antisymm h1 h2) (srtI_mono L) (srtI_mono M)
end Go.Fw
namespace Go.Fw.K
open Go Go.RowKit Go.Proofs Go.Fw
set_option maxHeartbeats 1000000 in
theorem keysI_calls (b : Nat) (w : World) : Calls Tryz.prog 35 #[.map (some b)] w fun e w' =>
    e = .returned (.func (.func 59) #[] #[.pointer (some ⟨w.heap.size, 0, none⟩)]) ∧ w' = w.alloc (.cells #[.map (some b)] 74) := by
  go_enter Tryz.func35, Tryz.ntmps35
  go_wp2
  go_ret
  exact ⟨rfl, rfl⟩
abbrev keysFnI (B : Nat) : Value := .func (.func 59) #[] #[.pointer (some ⟨B, 0, none⟩)]
theorem keysI_con {b : Nat} : ConF Tryz.prog 35 [.map (some b)] [] (fun v φo => ∃ B, v = keysFnI B ∧ φo = [vCells (some ⟨B, 0, none⟩) [.map (some b)]]) := fun w _ => by
  refine (keysI_calls b w).mono ?_
  rintro e w' ⟨rfl, rfl⟩
  refine ⟨_, _, rfl, ⟨w.heap.size, rfl, rfl⟩, below_alloc w _, fun p hp => ?_⟩
  obtain rfl := List.mem_singleton.1 hp
  intro j u hj
  refine ⟨w.heap.size, 0, rfl, Nat.lt_irrefl _, ?_⟩
  rw [cell_box (T := 74) (cs := [.map (some b)]) (World.alloc_heap_new w _), Nat.zero_add]; exact hj
set_option maxHeartbeats 1000000 in
theorem sortedI_con {B b c : Nat} {es : List MapEntry} (hE : EsI es c) (hN : es.length ≤ 1000000) : ConF Tryz.prog 34 [keysFnI B]
    [vCells (some ⟨B, 0, none⟩) [.map (some b)], vMap b es c]
    (fun v φo => ∃ (ad : Option Addr) (cap : Nat), v = .slice ad (srtI (es.map kdI)).length cap ∧ ((srtI (es.map kdI)).length ≤ cap ∧ cap ≤ 9223372036854775807) ∧ φo = [vCells ad (i64s (srtI (es.map kdI)))]) := fun w hin => by
  have s0 : St (allOld w) w [] ([vCells (some ⟨B, 0, none⟩) [.map (some b)], vMap b es c].map (fun p => (false, p)) ++ [(false, vPure True), (true, vPure True)]) :=
    (St.start hin).addViews (ψ := [(false, vPure True), (true, vPure True)]) fun p hp => by
      simp only [List.mem_cons, List.not_mem_nil, or_false] at hp
      rcases hp with rfl | rfl <;> exact True.intro
  have hcol : Calls Tryz.prog 58 #[keysFnI B] w (PostO (allOld w) (vPure True) (vPure True) (fun v rout φo => φo = [] ∧ ∃ (ad : Option Addr) (cap : Nat) (L : List Int), v = .slice ad L.length cap ∧ L.Perm (es.map kdI) ∧ rout = [osl ad L.length cap 3 1 (i64s L)])) := by
    go_enter Tryz.func58, Tryz.ntmps58
    go_wp2_with (go_at_call 94; refine (appI_con hE hN _ _ _ _ s0).mono ?_; rintro e w' ⟨v, rout, φo, rfl, ⟨hφ, ad, cap, L, rfl, hp, hr⟩, s1⟩)
    go_ret
    exact ⟨_, rout, φo, rfl, ⟨hφ, ad, cap, L, rfl, hp, hr⟩, s1⟩
  go_enter Tryz.func34, Tryz.ntmps34
  go_wp2_with (first
    | (go_at_call 58; refine hcol.mono ?_; rintro e w1 ⟨v, rout, φo, rfl, ⟨rfl, ad, cap, L, rfl, hp, rfl⟩, s1⟩
       have hL : L.length ≤ 1000000 := by rw [hp.length_eq, List.length_map]; exact hN)
    | (go_at_call 30; refine (sortI_con (ad := ad) (cap := cap) hL _ _ _ _ s1).mono ?_; rintro e w2 ⟨v, rout, φo, rfl, ⟨rfl, rfl, rfl⟩, s2⟩))
  go_ret
  have hc := osl_cap (s2.own _ List.mem_cons_self)
  have s3 := s2.give 0 rfl
  have he : srtI L = srtI (es.map kdI) := srtI_congr hp
  have hl : (srtI (es.map kdI)).length = L.length := by rw [← he, srtI_len]
  refine ⟨_, _, rfl, ⟨ad, cap, by rw [hl]; rfl, by rw [hl]; exact hc, rfl⟩, s3.base, fun p hp => ?_⟩
  obtain rfl := List.mem_singleton.1 hp
  rw [← he]
  exact (vCells ad (i64s (srtI L))).mono _ _ w2 w2 (s3.views _ List.mem_cons_self) (Nat.le_refl _) (fun _ _ _ => rfl) fun k _ hk => .inr ⟨rfl, hk⟩
end Go.Fw.K
