/- Chapter 28: the reference's texts; plain. -/
import Derived.Test.YtjkbamfcoiikmaaGreatDoorRfD
namespace Go.Fw.Pq
open Go Go.RowKit Go.Fw
theorem dd_hi : ∀ n : Nat, n < 16 → 9 < n → dd n = [49, UInt8.ofNat (48 + (n : Int) - 10).toNat] := by decide +kernel
theorem dd_lo : ∀ n : Nat, n < 16 → ¬ 9 < n → dd n = [UInt8.ofNat (48 + (n : Int)).toNat] := by decide +kernel
theorem tx_hi {t : AT} (h : t.kids.length = 0) (h1 : t.col < 16) (h2 : 9 < t.col) : tx t = [49, UInt8.ofNat (48 + (t.col : Int) - 10).toNat] := by
  show textT dd (er t) = _
  rw [er_lf h, textT, dd_hi _ h1 h2]
theorem tx_lo {t : AT} (h : t.kids.length = 0) (h1 : t.col < 16) (h2 : ¬ 9 < t.col) : tx t = [UInt8.ofNat (48 + (t.col : Int)).toNat] := by
  show textT dd (er t) = _
  rw [er_lf h, textT, dd_lo _ h1 h2]
/-- The texts of nodes, with spaces between them. -/
def txs (l : List AT) : List UInt8 := jn [32] (l.map tx)
theorem jn_snoc (s : List UInt8) (x : List UInt8) : ∀ {l : List (List UInt8)}, l ≠ [] → jn s (l ++ [x]) = jn s l ++ s ++ x
  | [], h => absurd rfl h
  | [y], _ => rfl
  | y :: z :: l, _ => by
    show y ++ s ++ jn s (z :: l ++ [x]) = y ++ s ++ jn s (z :: l) ++ s ++ x
    rw [jn_snoc s x (List.cons_ne_nil z l)]; simp
theorem txs_zero {l : List AT} {i : Nat} (hi : i < l.length) (h0 : i = 0) : txs (l.take (i + 1)) = txs (l.take i) ++ tx (l.getD i default) := by
  subst h0
  unfold txs
  rw [takeA_succ hi, List.take_zero]; rfl
theorem txs_snoc {l : List AT} {i : Nat} (hi : i < l.length) (h0 : 0 < i) : txs (l.take (i + 1)) = txs (l.take i) ++ [32] ++ tx (l.getD i default) := by
  unfold txs
  rw [takeA_succ hi, List.map_append, List.map_singleton, jn_snoc]
  intro e
  have := congrArg List.length e
  rw [List.length_map, List.length_take, List.length_nil] at this
  omega
theorem txs_len {l : List AT} (hf : ∀ k ∈ l, Fit k) (hx : ∀ k ∈ l, ∀ x ∈ lvs (er k), x < 100) : (txs l).length ≤ 5 * nA l := by
  by_cases c : l = []
  · subst c; exact Nat.zero_le _
  · have h1 := jn_len (s := [32]) rfl (l.map tx) (by simpa using c)
    have h2 := sum_le (f := fun k : PT => (textT dd k).length) (g := fun k : PT => 5 * (lvs k).length) (c := 3) (l := l.map er) fun x hx' => by
      obtain ⟨k, hk, rfl⟩ := List.mem_map.1 hx'
      exact text_len (hf k hk).ok (hx k hk)
    rw [nl_sum] at h2
    rw [List.map_map, List.length_map] at h1
    rw [List.map_map, List.length_map] at h2
    have e : (l.map (List.length ∘ tx)).sum = (l.map ((fun k : PT => (textT dd k).length) ∘ er)).sum := rfl
    have : (txs l).length = (jn [32] (l.map tx)).length := rfl
    have : nA l = nl (l.map er) := rfl
    omega
theorem kidsLt {t : AT} {c : Nat} (h : ∀ x ∈ lvs (er t), x < c) : ∀ k ∈ t.kids, ∀ x ∈ lvs (er k), x < c := by cases t; exact lt_kid h
theorem kidsNd {t : AT} (h : (lvs (er t)).Nodup) : ∀ k ∈ t.kids, (lvs (er k)).Nodup := by cases t; exact nodup_kid h
def revK (l : List AT) : List AT := if lsA (l.getD (l.length - 1) default) < lsA (l.getD 0 default) then l.reverse else l
theorem revK_perm (l : List AT) : (revK l).Perm l := by unfold revK; split; exact List.reverse_perm l; exact .refl _
theorem tx_Q {t : AT} (h0 : t.kids.length ≠ 0) (hq : t.line = true) : tx t = [91] ++ txs (revK t.kids) ++ [93] := by
  have hks := kids_ne h0
  have h := KO.line (d := dd) (ks := t.kids.map er) (by simpa using hks)
  rw [lst_last hks, lst_head hks] at h
  show textT dd (er t) = _
  rw [er_kn h0, hq]
  unfold KO at h
  rw [h]
  unfold txs revK
  split <;> simp [List.map_reverse, Function.comp_def]
theorem tx_P {t : AT} {K : List AT} (hf : Fit t) (hn : (lvs (er t)).Nodup) (h0 : t.kids.length ≠ 0) (hq : t.line = false) (hp : K.Perm t.kids) (hs : IO K K.length) : tx t = [40] ++ txs K ++ [41] := by
  rw [er_kn h0, lvs_nd] at hn
  have h := KO.any (d := dd) (K := K.map er) (okM (fitK hf)) hn (hp.map er) fun i j hij hj => by
    rw [List.length_map] at hj
    rw [getD_er _ (by omega), getD_er _ hj]
    exact hs i j hij hj
  show textT dd (er t) = _
  rw [er_kn h0, hq]
  unfold KO at h
  rw [h]
  unfold txs
  simp [Function.comp_def]
theorem lsA_kn {t : AT} (h0 : t.kids.length ≠ 0) : lsA t = ((t.kids.drop 1).map lsA).foldl min (lsA (t.kids.getD 0 default)) := by
  show lst (er t) = _
  rw [er_kn h0]
  match hk : t.kids, h0 with
  | k :: ks, _ =>
    rw [List.map_cons, lst, lstL_map, List.map_cons]
    show ((ks.map er).map lst).foldl min (lst (er k)) = _
    rw [List.map_map]; rfl
theorem lsA_lf {t : AT} (h : t.kids.length = 0) : lsA t = t.col := by show lst (er t) = _; rw [er_lf h, lst]
/-- The least of the first kids. -/
def mnA (l : List AT) (j : Nat) : Nat := (((l.drop 1).take j).map lsA).foldl min (lsA (l.getD 0 default))
theorem mnA_step {l : List AT} {j : Nat} (h : j + 1 < l.length) : mnA l (j + 1) = min (mnA l j) (lsA (l.getD (j + 1) default)) := by
  unfold mnA
  rw [takeA_succ (by rw [List.length_drop]; omega), List.map_append, List.foldl_append, List.map_singleton, List.foldl_cons, List.foldl_nil]
  congr 2
  rw [List.getD_eq_getElem?_getD, List.getElem?_drop, List.getD_eq_getElem?_getD, Nat.add_comm]
theorem mnA_done {t : AT} {j : Nat} (h0 : t.kids.length ≠ 0) (h : t.kids.length ≤ j + 1) : lsA t = mnA t.kids j := by
  rw [lsA_kn h0]; unfold mnA
  rw [List.take_of_length_le (by rw [List.length_drop]; omega)]
theorem mnI {a b : Nat} : (if ((b : Nat) : Int) < ((a : Nat) : Int) then ((b : Nat) : Int) else ((a : Nat) : Int)) = ((min a b : Nat) : Int) := by split <;> omega
end Go.Fw.Pq
