/- Chapter 28: the least leaf of a node: the world stays as it is. -/
import Derived.Test.YtjkbamfcoiikmaaGreatDoorPqKM
import Derived.WalkKit
import Derived.ProofKit
import Derived.Test.YtjkbamfcoiikmaaGreatDoorProg
namespace Go.Fw.K
open Go Go.RowKit Go.Proofs Go.Fw Go.Fw.Pq
def LeastAt (W : World) (t : AT) : Prop := Calls Tryz.prog 72 #[.pointer (some ⟨t.blk, 0, none⟩)] W fun e w' => e = .returned (.int .i64 (lst (er t) : Nat)) ∧ w' = W
/-- The least leaf of the kids ahead of one. -/
def lstK (ks : List AT) (k : Nat) : Nat := ((ks.take (k + 1)).drop 1).foldl (fun x t => min x (lst (er t))) (lst (er (ks.getD 0 default)))
theorem lstK_zero (ks : List AT) : lstK ks 0 = lst (er (ks.getD 0 default)) := by
  unfold lstK
  rw [List.drop_eq_nil_of_le (by rw [List.length_take]; omega)]; rfl
theorem lstK_succ {ks : List AT} {k : Nat} (h : k + 1 < ks.length) : lstK ks (k + 1) = min (lstK ks k) (lst (er (ks.getD (k + 1) default))) := by
  unfold lstK
  rw [takeA_succ h, List.drop_append_of_le_length (by rw [List.length_take]; omega), List.foldl_append]; rfl
theorem lstK_all {ks : List AT} {k : Nat} (h0 : ks ≠ []) (h : ks.length ≤ k + 1) {b n : Nat} {q : Bool} {ad : Option Addr} {cap : Nat} : lstK ks k = lst (er (.mk b n q ad cap ks)) := by
  unfold lstK
  rw [List.take_of_length_le h, er_nd h0, lst, lstL_map]
  match ks, h0 with
  | t :: ks, _ =>
    show List.foldl _ (lst (er t)) ks = ((ks.map er).map lst).foldl min (lst (er t))
    rw [List.map_map, List.foldl_map]; rfl
set_option maxHeartbeats 1000000 in
set_option maxRecDepth 20000 in
theorem least_leaf {W : World} {b n : Nat} {cap : Nat} {ad : Option Addr} (h0 : W.cell? ⟨b, 0, none⟩ = some (.int .i64 (n : Nat))) (h2 : W.cell? ⟨b, 2, none⟩ = some (.slice ad 0 cap)) :
    Calls Tryz.prog 72 #[.pointer (some ⟨b, 0, none⟩)] W fun e w' => e = .returned (.int .i64 (n : Nat)) ∧ w' = W := by
  go_enter Tryz.func72, Tryz.ntmps72
  go_wp2
  go_ret
  exact ⟨rfl, rfl⟩
def minK (kv : Nat → Nat) : Nat → Nat
  | 0 => kv 0
  | k + 1 => min (minK kv k) (kv (k + 1))
theorem minK_lst (ks : List AT) : ∀ k, k < ks.length → minK (fun j => lst (er (ks.getD j default))) k = lstK ks k
  | 0, _ => (lstK_zero ks).symm
  | k + 1, h => by rw [minK, minK_lst ks k (by omega), lstK_succ h]
set_option maxHeartbeats 4000000 in
set_option maxRecDepth 20000 in
theorem least_node {W : World} {b : Nat} {rb ro : Nat} {cap len : Nat} {kb kv : Nat → Nat} (h2 : W.cell? ⟨b, 2, none⟩ = some (.slice (some ⟨rb, ro, none⟩) len cap)) (hl : 2 ≤ len) (hl2 : len ≤ 1000) (hc : len ≤ cap)
    (hk : ∀ j, j < len → W.cell? ⟨rb, ro + j, none⟩ = some (.pointer (some ⟨kb j, 0, none⟩))) (hi : ∀ j, j < len → Calls Tryz.prog 72 #[.pointer (some ⟨kb j, 0, none⟩)] W fun e w' => e = .returned (.int .i64 (kv j : Nat)) ∧ w' = W) :
    Calls Tryz.prog 72 #[.pointer (some ⟨b, 0, none⟩)] W fun e w' => e = .returned (.int .i64 (minK kv (len - 1) : Nat)) ∧ w' = W := by
  have hk0 : W.cell? ⟨rb, ro, none⟩ = some (.pointer (some ⟨kb 0, 0, none⟩)) := hk 0 (by omega)
  have hk1 : ∀ k, k < len - 1 → W.cell? ⟨rb, ro + 1 + k, none⟩ = some (.pointer (some ⟨kb (k + 1), 0, none⟩)) := fun k h => by rw [Nat.add_assoc, Nat.add_comm 1]; exact hk (k + 1) (by omega)
  have hi0 := hi 0 (by omega)
  have hi1 : ∀ k, k < len - 1 → _ := fun k h => hi (k + 1) (by omega)
  clear hi hk
  obtain ⟨m, rfl⟩ : ∃ m, len = m + 2 := ⟨len - 2, by omega⟩
  obtain ⟨c, rfl⟩ : ∃ c, cap = c + 2 := ⟨cap - 2, by omega⟩
  go_enter Tryz.func72, Tryz.ntmps72
  go_wp2_with (go_at_call 72; refine hi0.mono ?_; rintro e w' ⟨rfl, rfl⟩)
  go_loop [3, 29] (fun o i => ∃ k : Nat, k ≤ m + 1 ∧ i = .int .i64 k ∧ o = .int .i64 (minK kv k : Nat)) (fun _ i => 1000 - (intOf i).toNat)
  case atStart => exact ⟨0, Nat.zero_le _, rfl, rfl⟩
  case round =>
    obtain ⟨k, hkm, rfl, rfl⟩ := hrel
    by_cases hlt : k < m + 1
    · have hcell := hk1 k (by omega)
      have hcall := hi1 k (by omega)
      have hlt2 : (k : Int) < (m : Int) + 1 := by omega
      have hmin : (if kv (k + 1) < minK kv k then ((kv (k + 1) : Nat) : Int) else ((minK kv k : Nat) : Int)) = ((minK kv (k + 1) : Nat) : Int) := by
        show _ = ((min (minK kv k) (kv (k + 1)) : Nat) : Int)
        split <;> omega
      clear hk1 hi1
      go_wp2_with (go_at_call 72; refine hcall.mono ?_; rintro e w' ⟨rfl, rfl⟩)
      exact ⟨⟨k + 1, by omega, rfl, rfl⟩, by simp only [intOf]; omega⟩
    · have hlt2 : ¬ (k : Int) < (m : Int) + 1 := by omega
      obtain rfl : k = m + 1 := by omega
      clear hk1 hi1
      go_wp2
      go_ret
      exact ⟨rfl, rfl⟩
theorem leastW {X : Nat → Prop} {W : World} (t : AT) : Fit t → AT.hold X W t → LeastAt W t := by
  induction t using AT.ind with
  | h b n q ad cap ks ih =>
    intro hf hh
    rw [AT.hold] at hh
    obtain ⟨h1, h2, h3⟩ := hh
    have hc : ∀ j u, (ncells n q ad ks.length cap)[j]? = some u → W.cell? ⟨b, j, none⟩ = some u := fun j u hj => by
      obtain ⟨b', o, e, _, hc⟩ := h1 j u hj
      cases e
      rwa [Nat.zero_add] at hc
    by_cases h0 : ks = []
    · subst h0
      exact least_leaf (hc 0 _ rfl) (hc 2 _ rfl)
    · have hl : 2 ≤ ks.length := by cases hf with | mk _ _ _ _ _ _ _ _ g _ _ => exact g h0
      obtain ⟨rb, ro, e, _, _⟩ := h2 0 _ (ptrs_get (l := ks) (i := 0) (by omega))
      subst e
      have := least_node (W := W) (b := b) (rb := rb) (ro := ro) (cap := cap) (len := ks.length) (kb := fun j => (ks.getD j default).blk) (kv := fun j => lst (er (ks.getD j default))) (hc 2 _ rfl) hl hf.len hf.cap
        (fun j hj => by
          obtain ⟨b', o, e, _, hc⟩ := h2 j _ (ptrs_get (l := ks) (i := j) hj)
          cases e
          exact hc)
        (fun j hj => ih _ (at_mem hj) (hf.kids _ (at_mem hj)) (AT.holdL_iff.1 h3 _ (at_mem hj)))
      rw [minK_lst ks _ (by omega), lstK_all h0 (by omega) (b := b) (n := n) (q := q) (ad := some ⟨rb, ro, none⟩) (cap := cap)] at this
      exact this
set_option maxHeartbeats 1000000 in
set_option maxRecDepth 20000 in
theorem lessW {W : World} {a b : Nat} {x y : Nat} (hx : x ≤ 1000000) (hy : y ≤ 1000000) (ha : Calls Tryz.prog 72 #[.pointer (some ⟨a, 0, none⟩)] W fun e w' => e = .returned (.int .i64 (x : Nat)) ∧ w' = W) (hb : Calls Tryz.prog 72 #[.pointer (some ⟨b, 0, none⟩)] W fun e w' => e = .returned (.int .i64 (y : Nat)) ∧ w' = W) :
    Calls Tryz.prog 75 #[.pointer (some ⟨a, 0, none⟩), .pointer (some ⟨b, 0, none⟩)] W fun e w' => e = .returned (.int .i64 ((x : Int) - (y : Int))) ∧ w' = W := by
  go_enter Tryz.func75, Tryz.ntmps75
  go_wp2_with fail
  go_at_call 72
  refine ha.mono ?_
  rintro e w' ⟨rfl, rfl⟩
  go_wp2_with fail
  go_at_call 72
  refine hb.mono ?_
  rintro e w' ⟨rfl, rfl⟩
  go_wp2
  go_ret
  exact ⟨rfl, rfl⟩
end Go.Fw.K
