/- Chapter 18: how often pairs occur, as a list of keys with values. Plain. -/
import Derived.Test.YtfkfmpfohaomhaaGreatFwMN
import Derived.Test.YtfkfmpfohaomhaaGreatCc
namespace Go.Fw
open Go Go.RowKit
theorem snoc_ind {α : Type} {M : List α → Prop} (h0 : M []) (hs : ∀ l p, M l → M (l ++ [p])) (l : List α) : M l := by
  rw [← l.reverse_reverse]
  generalize l.reverse = r
  induction r with
  | nil => exact h0
  | cons a r ih => rw [List.reverse_cons]; exact hs _ _ ih
def cntM (l : List Pr) : List (Pr × Int) := l.foldl (fun m p => setM p (getM 0 p m + 1) m) []
theorem takeP_succ {l : List Pr} {i : Nat} (h : i < l.length) : l.take (i + 1) = l.take i ++ [l.getD i dP] := by rw [List.take_add_one, getD_some h]; rfl
theorem cntM_snoc (l : List Pr) (p : Pr) : cntM (l ++ [p]) = setM p (getM 0 p (cntM l) + 1) (cntM l) := by unfold cntM; rw [List.foldl_append]; rfl
theorem cntM_nodup (l : List Pr) : ((cntM l).map (·.1)).Nodup := by
  refine snoc_ind (M := fun l => ((cntM l).map (·.1)).Nodup) List.nodup_nil (fun l p ih => ?_) l
  rw [cntM_snoc]; exact setM_nodup ih
theorem cntM_keys (l : List Pr) (x : Pr) : x ∈ (cntM l).map (·.1) ↔ x ∈ l := by
  refine snoc_ind (M := fun l => x ∈ (cntM l).map (·.1) ↔ x ∈ l) Iff.rfl (fun l p ih => ?_) l
  · skip
    rw [cntM_snoc, setM_keys, List.mem_append, List.mem_singleton]
    split
    · rename_i h
      rw [ih]
      exact ⟨.inl, fun h' => h'.elim id fun e => by rw [e]; exact (show p ∈ (cntM l).map (·.1) ↔ p ∈ l from by rw [← e]; exact ih).1 h⟩
    · rw [List.mem_append, List.mem_singleton, ih]
theorem cntM_get (l : List Pr) (x : Pr) : getM 0 x (cntM l) = (l.count x : Int) := by
  refine snoc_ind (M := fun l => getM 0 x (cntM l) = (l.count x : Int)) rfl (fun l p ih => ?_) l
  · skip
    rw [cntM_snoc, getM_setM, List.count_append, List.count_singleton]
    by_cases h : p = x
    · subst h; simp [ih]
    · simp [h, ih]
theorem cntM_len (l : List Pr) : (cntM l).length ≤ l.length := by
  have h := nodup_leP (cntM_nodup l) fun x hx => (cntM_keys l x).1 hx
  rwa [List.length_map] at h
theorem keys_srt {d l : List Pr} (hp : d.Perm ((cntM l).map (·.1))) (hd : ∀ i j, i < j → j < d.length → ¬ ltP (d.getD j dP) (d.getD i dP)) : d = srt l := by
  refine (srt_eq (l := l) (m := d) ?_ fun x => (hp.mem_iff).trans (cntM_keys l x)).symm
  refine List.pairwise_iff_getElem.2 fun i j hi hj hij => ?_
  have hn : d.Nodup := hp.symm.nodup (cntM_nodup l)
  have h := hd i j hij hj
  have e : ∀ k (hk : k < d.length), d.getD k dP = d[k] := fun k hk => by rw [List.getD_eq_getElem?_getD, List.getElem?_eq_getElem hk]; rfl
  rw [e i hi, e j hj] at h
  rcases ltP.tri d[i] d[j] with h' | h' | h'
  · exact h'
  · exact absurd h' ((List.pairwise_iff_getElem.1 hn) i j hi hj hij)
  · exact absurd h' h
end Go.Fw
