/- Chapter 18: specimens: their cells, their check. Plain. -/
import Derived.Test.YtfkfmpfohaomhaaGreatCoA
import Derived.Test.YtfkfmpfohaomhaaGreatCc
namespace Go.Fw
open Go Go.RowKit
structure Spc where
  id : Int
  ob : Int
  re : Int
  os : Int
  rs : Int
  ax : Int
  wt : Int
  deriving DecidableEq
abbrev sc (s : Spc) : List Value := [.int .i64 s.id, .int .i64 s.ob, .int .i64 s.re, .int .i64 s.os, .int .i64 s.rs, .int .i64 s.ax, .int .i64 s.wt]
abbrev sv (s : Spc) : Value := .agg #[.int .i64 s.id, .int .i64 s.ob, .int .i64 s.re, .int .i64 s.os, .int .i64 s.rs, .int .i64 s.ax, .int .i64 s.wt]
def dS : Spc := ⟨0, 0, 0, 0, 0, 0, 0⟩
def scells (l : List Spc) : List Value := l.flatMap sc
theorem scells_cons (x : Spc) (l : List Spc) : scells (x :: l) = sc x ++ scells l := rfl
theorem scells_app (l m : List Spc) : scells (l ++ m) = scells l ++ scells m := by unfold scells; rw [List.flatMap_append]
theorem scells_length : ∀ l : List Spc, (scells l).length = l.length * 7
  | [] => rfl
  | x :: l => by rw [scells_cons, List.length_append, scells_length l, List.length_cons]; simp only [List.length_cons, List.length_nil]; omega
theorem scells_get : ∀ {l : List Spc} {j : Nat} {x : Spc}, l[j]? = some x → ∀ m, m < 7 → (scells l)[j * 7 + m]? = (sc x)[m]?
  | [], _, _, h, _, _ => by simp at h
  | y :: l, 0, x, h, m, hm => by
    simp at h
    subst h
    rw [scells_cons, List.getElem?_append_left (by simp only [List.length_cons, List.length_nil]; omega), Nat.zero_mul, Nat.zero_add]
  | y :: l, j + 1, x, h, m, hm => by
    rw [scells_cons, List.getElem?_append_right (by simp only [List.length_cons, List.length_nil]; omega)]
    rw [show (j + 1) * 7 + m - (sc y).length = j * 7 + m from by simp only [List.length_cons, List.length_nil]; omega]
    exact scells_get (by simpa using h) m hm
theorem getS_some {l : List Spc} {j : Nat} (h : j < l.length) : l[j]? = some (l.getD j dS) := by
  rw [List.getD_eq_getElem?_getD, List.getElem?_eq_getElem h]; rfl
theorem getS_mem {l : List Spc} {j : Nat} (h : j < l.length) : l.getD j dS ∈ l := List.mem_of_getElem? (getS_some h)
theorem scells_getA {l : List Spc} {j : Nat} (h : j < l.length) (m : Nat) (v : Value) (hv : (sc (l.getD j dS))[m]? = some v) : (scells l)[j * 7 + m]? = some v := by
  have hm : m < 7 := by have := (List.getElem?_eq_some_iff.1 hv).1; simpa using this
  rw [scells_get (getS_some h) m hm, hv]
theorem scells_id {l : List Spc} {j : Nat} (h : j < l.length) : (scells l)[j * 7 + 0]? = some (.int .i64 (l.getD j dS).id) := scells_getA h 0 _ rfl
theorem scells_take : ∀ (l : List Spc) (k : Nat), (scells l).take (k * 7) = scells (l.take k)
  | l, 0 => by simp [scells]
  | [], k + 1 => by simp [scells]
  | x :: l, k + 1 => by
    rw [scells_cons, List.take_succ_cons, scells_cons, List.take_append, List.take_of_length_le (by simp only [List.length_cons, List.length_nil]; omega)]
    rw [show (k + 1) * 7 - (sc x).length = k * 7 from by simp only [List.length_cons, List.length_nil]; omega, scells_take l k]
theorem allOne_scells (l : List Spc) : AllOne (scells l) := by
  intro v hv
  unfold scells at hv
  obtain ⟨x, _, hx⟩ := List.mem_flatMap.1 hv
  simp only [List.mem_cons, List.not_mem_nil, or_false] at hx
  rcases hx with rfl | rfl | rfl | rfl | rfl | rfl | rfl <;> rfl
theorem takeS_succ {l : List Spc} {i : Nat} (h : i < l.length) : l.take (i + 1) = l.take i ++ [l.getD i dS] := by rw [List.take_add_one, getS_some h]; rfl
/-- valid -/
abbrev okS (s : Spc) : Prop := ((1 ≤ s.ob ∧ s.ob ≤ 999) ∧ (1 ≤ s.re ∧ s.re ≤ 999) ∧ (1 ≤ s.os ∧ s.os ≤ 9) ∧ (1 ≤ s.rs ∧ s.rs ≤ 9)) ∧ (1 ≤ s.id ∧ s.id ≤ 9999) ∧ (0 ≤ s.ax ∧ s.ax ≤ 11) ∧ (1 ≤ s.wt ∧ s.wt ≤ 200000)
def idsS (l : List Spc) : List Int := l.map (·.id)
theorem idsS_snoc (l : List Spc) (s : Spc) : idsS (l ++ [s]) = idsS l ++ [s.id] := by unfold idsS; rw [List.map_append]; rfl
def seenM (l : List Spc) : List (Int × Bool) := l.foldl (fun m s => setM s.id true m) []
theorem seenM_snoc (l : List Spc) (s : Spc) : seenM (l ++ [s]) = setM s.id true (seenM l) := by unfold seenM; rw [List.foldl_append]; rfl
theorem seenM_nodup (l : List Spc) : ((seenM l).map (·.1)).Nodup := by
  refine snoc_ind (M := fun l => ((seenM l).map (·.1)).Nodup) List.nodup_nil (fun l p ih => ?_) l
  rw [seenM_snoc]; exact setM_nodup ih
theorem seenM_get (l : List Spc) (x : Int) : getM false x (seenM l) = decide (x ∈ idsS l) := by
  refine snoc_ind (M := fun l => getM false x (seenM l) = decide (x ∈ idsS l)) rfl (fun l s ih => ?_) l
  rw [seenM_snoc, getM_setM, idsS_snoc, ih]
  by_cases h : s.id = x
  · rw [if_pos h, decide_eq_true]; rw [← h]; simp
  · rw [if_neg h]
    refine decide_eq_decide.2 ?_
    rw [List.mem_append, List.mem_singleton]
    exact ⟨.inl, fun h' => h'.elim id fun e => absurd e.symm h⟩
theorem nodup_snoc {l : List Int} {x : Int} : (l ++ [x]).Nodup ↔ l.Nodup ∧ x ∉ l := by
  rw [List.nodup_append]
  exact ⟨fun h => ⟨h.1, fun hx => h.2.2 x hx x (List.mem_singleton.2 rfl) rfl⟩, fun h => ⟨h.1, by simp, fun a ha b hb e => by rw [List.mem_singleton] at hb; subst hb e; exact h.2 ha⟩⟩
theorem twice_step {l : List Spc} {i : Nat} (h : i < l.length) {tw : Bool} {r : List (Int × Bool)} (hr : seenM (l.take i) = r) (ht : tw = !decide (idsS (l.take i)).Nodup) :
    (tw || getM false (l.getD i dS).id r) = !decide (idsS (l.take (i + 1))).Nodup := by
  rw [takeS_succ h, idsS_snoc, ← hr, seenM_get, ht]
  by_cases h1 : (idsS (l.take i)).Nodup
  · by_cases h2 : (l.getD i dS).id ∈ idsS (l.take i)
    · rw [decide_eq_true h1, decide_eq_true h2, decide_eq_false (fun h => (nodup_snoc.1 h).2 h2)]; rfl
    · rw [decide_eq_true h1, decide_eq_false h2, decide_eq_true (nodup_snoc.2 ⟨h1, h2⟩)]; rfl
  · rw [decide_eq_false h1, decide_eq_false (p := (idsS (l.take i) ++ [(l.getD i dS).id]).Nodup) (fun h => h1 (nodup_snoc.1 h).1)]; rfl
theorem idsS_mem {l : List Spc} {i : Nat} {x : Int} (hi : i ≤ l.length) (h : x ∈ idsS (l.take i)) : ∃ k, k < i ∧ (l.getD k dS).id = x := by
  obtain ⟨s, hs, rfl⟩ := List.mem_map.1 h
  obtain ⟨k, hk⟩ := List.mem_iff_getElem?.1 hs
  have hlt := (List.getElem?_eq_some_iff.1 hk).1
  rw [List.length_take] at hlt
  rw [List.getElem?_take, if_pos (by omega), getS_some (by omega)] at hk
  exact ⟨k, by omega, by rw [Option.some.inj hk]⟩
theorem nodup_step {l : List Spc} {i : Nat} (h : i < l.length) (hn : (idsS (l.take i)).Nodup) (hk : ∀ k, k < i → (l.getD i dS).id ≠ (l.getD k dS).id) : (idsS (l.take (i + 1))).Nodup := by
  rw [takeS_succ h, idsS_snoc]
  refine nodup_snoc.2 ⟨hn, fun hx => ?_⟩
  obtain ⟨k, hki, e⟩ := idsS_mem (by omega) hx
  exact hk k hki e.symm
theorem dup_at {l : List Spc} {i k : Nat} (hi : i < l.length) (hk : k < i) (e : (l.getD i dS).id = (l.getD k dS).id) : ¬ (idsS l).Nodup := fun h => by
  have h2 := (List.pairwise_iff_getElem.1 h) k i (by unfold idsS; rw [List.length_map]; omega) (by unfold idsS; rw [List.length_map]; exact hi) hk
  refine h2 ?_
  have g : ∀ j (hj : j < l.length), (idsS l)[j]'(by unfold idsS; rw [List.length_map]; exact hj) = (l.getD j dS).id := fun j hj => by
    have := getS_some hj; rw [List.getElem?_eq_getElem hj] at this
    unfold idsS; rw [List.getElem_map, Option.some.inj this]
  rw [g k (by omega), g i hi, e]
/-- the error of a study -/
def errS (l : List Spc) : Int := if 64 < l.length then 6 else if ∃ s ∈ l, ¬ okS s then 1 else if (idsS l).Nodup then 0 else 8
theorem errS_full {l : List Spc} (h : 64 < l.length) : errS l = 6 := if_pos h
theorem errS_arg {l : List Spc} (h : ¬ 64 < l.length) {i : Nat} (hi : i < l.length) (hb : ¬ okS (l.getD i dS)) : errS l = 1 := by unfold errS; rw [if_neg h, if_pos ⟨_, getS_mem hi, hb⟩]
theorem errS_ok {l : List Spc} (h : ¬ 64 < l.length) (ho : ∀ j, j < l.length → okS (l.getD j dS)) (hn : (idsS l).Nodup) : errS l = 0 := by
  unfold errS
  rw [if_neg h, if_neg, if_pos hn]
  rintro ⟨s, hs, hb⟩
  obtain ⟨j, hj⟩ := List.mem_iff_getElem?.1 hs
  have hlt := (List.getElem?_eq_some_iff.1 hj).1
  rw [getS_some hlt] at hj
  exact hb (by rw [← Option.some.inj hj]; exact ho j hlt)
theorem errS_dup {l : List Spc} (h : ¬ 64 < l.length) (ho : ∀ j, j < l.length → okS (l.getD j dS)) (hn : ¬ (idsS l).Nodup) : errS l = 8 := by
  unfold errS
  rw [if_neg h, if_neg, if_neg hn]
  rintro ⟨s, hs, hb⟩
  obtain ⟨j, hj⟩ := List.mem_iff_getElem?.1 hs
  have hlt := (List.getElem?_eq_some_iff.1 hj).1
  rw [getS_some hlt] at hj
  exact hb (by rw [← Option.some.inj hj]; exact ho j hlt)
theorem errS_le (l : List Spc) : 0 ≤ errS l ∧ errS l ≤ 8 := by
  unfold errS
  by_cases h1 : 64 < l.length
  · rw [if_pos h1]; omega
  · rw [if_neg h1]
    by_cases h2 : ∃ s ∈ l, ¬ okS s
    · rw [if_pos h2]; omega
    · rw [if_neg h2]
      by_cases h3 : (idsS l).Nodup
      · rw [if_pos h3]; omega
      · rw [if_neg h3]; omega
def errC (a b : List Spc) : Int := if errS a ≠ 0 then errS a else errS b
def firstE : List Int → Int
  | [] => 0
  | x :: l => if x ≠ 0 then x else firstE l
theorem firstE_miss : ∀ {L : List Int}, (∀ j, j < L.length → L.getD j 0 = 0) → firstE L = 0
  | [], _ => rfl
  | x :: l, h => by
    have h0 : x = 0 := h 0 (by simp)
    rw [firstE, if_neg (fun e => e h0)]
    exact firstE_miss fun j hj => h (j + 1) (by rw [List.length_cons]; omega)
theorem firstE_hit : ∀ {L : List Int} {k : Nat}, k < L.length → (∀ j, j < k → L.getD j 0 = 0) → L.getD k 0 ≠ 0 → firstE L = L.getD k 0
  | [], _, hk, _, _ => absurd hk (Nat.not_lt_zero _)
  | x :: l, 0, _, _, h => if_pos h
  | x :: l, k + 1, hk, h, h2 => by
    have h0 : x = 0 := h 0 (by omega)
    rw [firstE, if_neg (fun e => e h0)]
    exact firstE_hit (k := k) (by rw [List.length_cons] at hk; omega) (fun j hj => h (j + 1) (by omega)) h2
theorem firstE_two (a b : List Spc) : firstE [errS a, errS b] = errC a b := by
  unfold errC
  rw [firstE]
  by_cases h : errS a ≠ 0
  · rw [if_pos h, if_pos h]
  · rw [if_neg h, if_neg h, firstE, firstE]
    by_cases h2 : errS b ≠ 0
    · rw [if_pos h2]
    · rw [if_neg h2]; exact (Classical.not_not.1 h2).symm
def dieS (s : Spc) (side : Int) : Int := if side = 0 then s.ob else s.re
/-- the first specimen with an id -/
def findS (l : List Spc) (x : Int) : Option Spc := l.find? fun s => decide (s.id = x)
theorem findS_some {l : List Spc} {x : Int} {i : Nat} (hi : i < l.length) (hx : (l.getD i dS).id = x) (hb : ∀ j, j < i → (l.getD j dS).id ≠ x) : findS l x = some (l.getD i dS) := by
  unfold findS
  rw [List.find?_eq_some_iff_getElem]
  refine ⟨by simpa using hx, i, hi, ?_, fun j hj => ?_⟩
  · have := getS_some hi; rw [List.getElem?_eq_getElem hi] at this; exact Option.some.inj this
  · have := getS_some (show j < l.length by omega); rw [List.getElem?_eq_getElem (by omega)] at this
    rw [Option.some.inj this]; simpa using hb j hj
theorem findS_none {l : List Spc} {x : Int} (hb : ∀ j, j < l.length → (l.getD j dS).id ≠ x) : findS l x = none := by
  unfold findS
  rw [List.find?_eq_none]
  intro s hs
  obtain ⟨j, hj⟩ := List.mem_iff_getElem?.1 hs
  have hlt := (List.getElem?_eq_some_iff.1 hj).1
  rw [getS_some hlt] at hj
  rw [← Option.some.inj hj]; simpa using hb j hlt
/-- the common ids in a's order -/
def comI (a b : List Spc) : List Int := (idsS a).filter fun x => (findS b x).isSome
theorem comI_step {a b : List Spc} {i : Nat} (h : i < a.length) : comI (a.take (i + 1)) b = comI (a.take i) b ++ (if (findS b (a.getD i dS).id).isSome = true then [(a.getD i dS).id] else []) := by
  unfold comI
  rw [takeS_succ h, idsS_snoc, List.filter_append]
  by_cases h1 : (findS b (a.getD i dS).id).isSome = true
  · rw [if_pos h1, List.filter_cons, if_pos h1]; rfl
  · rw [if_neg h1, List.filter_cons, if_neg h1]; rfl
theorem comI_len (a b : List Spc) : (comI a b).length ≤ a.length := by
  unfold comI idsS
  refine Nat.le_trans (List.length_filter_le _ _) ?_
  rw [List.length_map]; exact Nat.le_refl _
def comS (a b : List Spc) : List Int := if errC a b = 0 then srtI (comI a b) else []
theorem comS_no {a b : List Spc} (h : errC a b ≠ 0) : comS a b = [] := if_neg h
theorem comS_yes {a b : List Spc} (h : errC a b = 0) : comS a b = srtI (comI a b) := if_pos h
/-- the numbers of both studies -/
def cplF (a b : List Spc) (side : Int) (x : Int) : Pr := (dieS ((findS a x).getD dS) side, dieS ((findS b x).getD dS) side)
def errP (a b : List Spc) (side : Int) : Int := if errC a b ≠ 0 then errC a b else if side ≠ 0 ∧ side ≠ 1 then 2 else 0
def prsS (a b : List Spc) (side : Int) : List Pr := if errP a b side = 0 then (comS a b).map (cplF a b side) else []
theorem errP_c {a b : List Spc} {side : Int} (h : errC a b ≠ 0) : errP a b side = errC a b := if_pos h
theorem errP_s {a b : List Spc} {side : Int} (h : ¬ errC a b ≠ 0) (h2 : side ≠ 0 ∧ side ≠ 1) : errP a b side = 2 := by unfold errP; rw [if_neg h, if_pos h2]
theorem errP_ok {a b : List Spc} {side : Int} (h : ¬ errC a b ≠ 0) (h2 : ¬ (side ≠ 0 ∧ side ≠ 1)) : errP a b side = 0 := by unfold errP; rw [if_neg h, if_neg h2]
theorem prsS_no {a b : List Spc} {side : Int} (h : errP a b side ≠ 0) : prsS a b side = [] := if_neg h
theorem prsS_yes {a b : List Spc} {side : Int} (h : errP a b side = 0) : prsS a b side = (comS a b).map (cplF a b side) := if_pos h
theorem map_step {f : Int → Pr} {L : List Int} {i : Nat} (h : i < L.length) : (L.take (i + 1)).map f = (L.take i).map f ++ [f (L.getD i 0)] := by
  have e : L[i]? = some (L.getD i 0) := by rw [List.getD_eq_getElem?_getD, List.getElem?_eq_getElem h]; rfl
  rw [List.take_add_one, e]; simp
theorem comS_len (a b : List Spc) : (comS a b).length ≤ a.length := by
  unfold comS
  split
  · rw [srtI_len]; exact comI_len a b
  · exact Nat.zero_le _
end Go.Fw

/- Chapter 18: lists of pairs compared. Plain. -/
namespace Go.Fw
open Go Go.RowKit
def cmpLP : List Pr → List Pr → Int
  | [], [] => 0
  | [], _ :: _ => -1
  | _ :: _, [] => 1
  | x :: l, y :: m => if cmpPr x y ≠ 0 then cmpPr x y else cmpLP l m
theorem drop_at {l : List Pr} {i : Nat} (h : i < l.length) : l.drop i = l.getD i dP :: l.drop (i + 1) := by
  rw [List.drop_eq_getElem_cons h]
  congr 1
  rw [List.getD_eq_getElem?_getD, List.getElem?_eq_getElem h]; rfl
theorem cmpLP_step {l m : List Pr} {i : Nat} (hl : i < l.length) (hm : i < m.length) (h : cmpPr (l.getD i dP) (m.getD i dP) = 0) : cmpLP (l.drop i) (m.drop i) = cmpLP (l.drop (i + 1)) (m.drop (i + 1)) := by
  rw [drop_at hl, drop_at hm, cmpLP, if_neg (fun e => e h)]
theorem cmpLP_hit {l m : List Pr} {i : Nat} (hl : i < l.length) (hm : i < m.length) (h : cmpPr (l.getD i dP) (m.getD i dP) ≠ 0) : cmpLP (l.drop i) (m.drop i) = cmpPr (l.getD i dP) (m.getD i dP) := by
  rw [drop_at hl, drop_at hm, cmpLP, if_pos h]
theorem cmpLP_long {l m : List Pr} {i : Nat} (hl : i < l.length) (hm : m.length ≤ i) : cmpLP (l.drop i) (m.drop i) = 1 := by
  rw [drop_at hl, List.drop_of_length_le hm, cmpLP]
theorem cmpLP_short {l m : List Pr} {i : Nat} (hl : l.length ≤ i) (hm : i < m.length) : cmpLP (l.drop i) (m.drop i) = -1 := by
  rw [drop_at hm, List.drop_of_length_le hl, cmpLP]
theorem cmpLP_same {l m : List Pr} {i : Nat} (hl : l.length ≤ i) (hm : m.length ≤ i) : cmpLP (l.drop i) (m.drop i) = 0 := by
  rw [List.drop_of_length_le hm, List.drop_of_length_le hl, cmpLP]
theorem nilPL {w0 : Ctx} {σ : List Res} {φ : List (Bool × VP)} {w : World} (s : St w0 w σ φ) {f : Bool} {ad : Option Addr} {l : List Pr} (h : (f, vCells ad (pcells l)) ∈ φ) (ha : ad.isNone = true) : l = [] := by
  cases l with
  | nil => rfl
  | cons x l =>
    have hv : CellsAt (Xof w0 σ f) w ad (pcells (x :: l)) := s.views _ h
    obtain ⟨b, o, e, _⟩ := hv 0 (.int .i64 x.1) rfl
    rw [e] at ha; cases ha
theorem JE_ownCap {Q : Exit → Act → World → Prop} {e : Exit} {w0 : Ctx} {σ : List Res} {φ : List (Bool × VP)} {fr : Fr} {ad : Option Addr} {n cap sz : Nat} {E : TypeId} {xs : List Value} (i : Nat) (h : Nth σ i (osl ad n cap E sz xs))
    (k : n ≤ cap ∧ cap ≤ 9223372036854775807 → JE Q e w0 σ φ fr) : JE Q e w0 σ φ fr := JE_fact (fun _ s => osl_cap (s.own _ h.mem)) k
end Go.Fw

/- Chapter 18: the search for the best assignment, as a fold over all assignments. Plain. -/
namespace Go.Fw
open Go Go.RowKit
/-! ## The order of lists of pairs -/
theorem cmpPr_zero' {p q : Pr} : cmpPr p q = 0 ↔ p = q := by
  constructor
  · intro h
    rcases ltP.tri p q with h' | h' | h'
    · have := cmpPr_neg.2 h'; omega
    · exact h'
    · have h2 : ¬ cmpI q.1 p.1 = 0 ∨ (cmpI q.1 p.1 = 0 ∧ ¬ cmpI q.2 p.2 = 0) := by
        rcases h' with h' | ⟨h1, h2⟩
        · exact .inl fun e => by rw [cmpI_zero] at e; omega
        · exact .inr ⟨cmpI_zero.2 h1, fun e => by rw [cmpI_zero] at e; omega⟩
      exfalso
      unfold cmpPr at h
      split at h
      · contradiction
      · rename_i h3
        have h3 := Classical.not_not.1 h3
        rw [cmpI_zero] at h3
        split at h
        · contradiction
        · rename_i h4
          have h4 := Classical.not_not.1 h4
          rw [cmpI_zero] at h4
          exact ltP.irr p (by have e : q = p := Prod.ext h3.symm h4.symm
                              subst e; exact h')
  · rintro rfl
    unfold cmpPr
    have h1 : cmpI p.1 p.1 = 0 := cmpI_zero.2 rfl
    have h2 : cmpI p.2 p.2 = 0 := cmpI_zero.2 rfl
    rw [if_neg (by rw [h1]; simp), if_neg (by rw [h2]; simp)]
def ltL (a b : List Pr) : Prop := cmpLP a b < 0
theorem ltL_nil_cons (y : Pr) (m : List Pr) : ltL [] (y :: m) := by show (-1 : Int) < 0; decide
theorem not_ltL_nil (l : List Pr) : ¬ ltL l [] := by
  cases l with
  | nil => show ¬ (0 : Int) < 0; decide
  | cons x l => show ¬ (1 : Int) < 0; decide
theorem ltL_cons {x y : Pr} {l m : List Pr} : ltL (x :: l) (y :: m) ↔ ltP x y ∨ x = y ∧ ltL l m := by
  unfold ltL
  rw [cmpLP]
  by_cases h : cmpPr x y ≠ 0
  · rw [if_pos h, cmpPr_neg]
    exact ⟨.inl, fun h' => h'.elim id fun h2 => absurd (cmpPr_zero'.2 h2.1) h⟩
  · rw [if_neg h]
    have e := cmpPr_zero'.1 (Classical.not_not.1 h)
    subst e
    exact ⟨fun h2 => .inr ⟨rfl, h2⟩, fun h2 => h2.elim (fun h3 => absurd h3 (ltP.irr x)) fun h3 => h3.2⟩
theorem ltL_irr : ∀ l : List Pr, ¬ ltL l l
  | [] => not_ltL_nil []
  | x :: l => fun h => by
    rcases ltL_cons.1 h with h | h
    · exact ltP.irr x h
    · exact ltL_irr l h.2
theorem ltL_trans : ∀ {a b c : List Pr}, ltL a b → ltL b c → ltL a c
  | [], _, [], _, h => absurd h (not_ltL_nil _)
  | [], _, _ :: _, _, _ => ltL_nil_cons _ _
  | _ :: _, [], _, h, _ => absurd h (not_ltL_nil _)
  | _ :: _, _ :: _, [], _, h => absurd h (not_ltL_nil _)
  | x :: a, y :: b, z :: c, h, h' => by
    rw [ltL_cons] at *
    rcases h with h | ⟨rfl, h⟩
    · rcases h' with h' | ⟨rfl, h'⟩
      · exact .inl (h.trans h')
      · exact .inl h
    · rcases h' with h' | ⟨rfl, h'⟩
      · exact .inl h'
      · exact .inr ⟨rfl, ltL_trans h h'⟩
theorem ltL_tri : ∀ a b : List Pr, ltL a b ∨ a = b ∨ ltL b a
  | [], [] => .inr (.inl rfl)
  | [], y :: m => .inl (ltL_nil_cons y m)
  | x :: l, [] => .inr (.inr (ltL_nil_cons x l))
  | x :: l, y :: m => by
    rw [ltL_cons, ltL_cons]
    rcases ltP.tri x y with h | h | h
    · exact .inl (.inl h)
    · subst h
      rcases ltL_tri l m with h | h | h
      · exact .inl (.inr ⟨rfl, h⟩)
      · exact .inr (.inl (by rw [h]))
      · exact .inr (.inr (.inr ⟨rfl, h⟩))
    · exact .inr (.inr (.inl h))
instance (a b : List Pr) : Decidable (ltL a b) := inferInstanceAs (Decidable (cmpLP a b < 0))

/-! ## The search -/
def clashP (t : List Pr) (p : Pr) : Bool := t.any fun q => decide (q.1 = p.1 ∨ q.2 = p.2)
theorem any_range (t : List Pr) (f : Pr → Bool) : ((List.range t.length).any fun k => f (t.getD k dP)) = t.any f := by
  refine Bool.eq_iff_iff.2 ?_
  rw [List.any_eq_true, List.any_eq_true]
  constructor
  · rintro ⟨k, hk, h⟩
    exact ⟨_, getD_mem2 (List.mem_range.1 hk), h⟩
  · rintro ⟨q, hq, h⟩
    obtain ⟨k, hk⟩ := List.mem_iff_getElem?.1 hq
    have hlt := (List.getElem?_eq_some_iff.1 hk).1
    rw [getD_some hlt] at hk
    exact ⟨k, List.mem_range.2 hlt, by rw [Option.some.inj hk]; exact h⟩
theorem clash_range (t : List Pr) (p : Pr) : ((List.range t.length).any fun k => decide ((t.getD k dP).1 = p.1 ∨ (t.getD k dP).2 = p.2)) = clashP t p := any_range t fun q => decide (q.1 = p.1 ∨ q.2 = p.2)
section
variable (W : Pr → Int)
def sumW : List Pr → Int
  | [] => 0
  | p :: t => W p + sumW t
theorem sumW_snoc (t : List Pr) (p : Pr) : sumW W (t ++ [p]) = sumW W t + W p := by
  induction t with
  | nil => simp [sumW]
  | cons q t ih => rw [List.cons_append, sumW, ih, sumW]; omega
theorem sumW_le {K : Int} (h : ∀ p, 0 ≤ W p ∧ W p ≤ K) : ∀ t : List Pr, 0 ≤ sumW W t ∧ sumW W t ≤ t.length * K
  | [] => by simp [sumW]
  | p :: t => by
    have h1 := h p
    have h2 := sumW_le h t
    rw [sumW, List.length_cons, Int.natCast_add, Int.add_mul]
    omega
/-- x stands before y -/
def btS (x y : List Pr) : Prop := sumW W y < sumW W x ∨ sumW W x = sumW W y ∧ ltL x y
instance (x y : List Pr) : Decidable (btS W x y) := inferInstanceAs (Decidable (_ ∨ _))
variable {W}
theorem btS_irr (x : List Pr) : ¬ btS W x x := by
  rintro (h | h)
  · omega
  · exact ltL_irr x h.2
theorem btS_trans {x y z : List Pr} (h : btS W x y) (k : btS W y z) : btS W x z := by
  rcases h with h | ⟨h, h'⟩ <;> rcases k with k | ⟨k, k'⟩
  · exact .inl (by omega)
  · exact .inl (by omega)
  · exact .inl (by omega)
  · exact .inr ⟨by omega, ltL_trans h' k'⟩
theorem btS_tri (x y : List Pr) : btS W x y ∨ x = y ∨ btS W y x := by
  rcases Int.lt_trichotomy (sumW W x) (sumW W y) with h | h | h
  · exact .inr (.inr (.inl h))
  · rcases ltL_tri x y with k | k | k
    · exact .inl (.inr ⟨h, k⟩)
    · exact .inr (.inl k)
    · exact .inr (.inr (.inr ⟨h.symm, k⟩))
  · exact .inl (.inl h)
variable (W)
def upB (best x : List Pr) : List Pr := if btS W x best then x else best
def goB : List Pr → List Pr → List Pr → List Pr
  | [], _, best => best
  | p :: r, t, best => goB r t (if clashP t p then best else goB r (t ++ [p]) (upB W best (t ++ [p])))
def enG : List Pr → List Pr → List (List Pr)
  | [], _ => []
  | p :: r, t => (if clashP t p then [] else (t ++ [p]) :: enG r (t ++ [p])) ++ enG r t
def upO (best : Option (List Pr)) (x : List Pr) : Option (List Pr) := some (match best with | none => x | some b => upB W b x)
def seB : List Pr → List Pr → Option (List Pr) → Option (List Pr)
  | [], t, best => upO W best t
  | p :: r, t, best => seB r t (if clashP t p then best else seB r (t ++ [p]) best)
def enS : List Pr → List Pr → List (List Pr)
  | [], t => [t]
  | p :: r, t => (if clashP t p then [] else enS r (t ++ [p])) ++ enS r t
variable {W}
theorem goB_eq : ∀ (r t best : List Pr), goB W r t best = (enG r t).foldl (upB W) best
  | [], _, _ => rfl
  | p :: r, t, best => by
    rw [goB, goB_eq r t, enG, List.foldl_append]
    congr 1
    by_cases h : clashP t p = true
    · rw [if_pos h, if_pos h]; rfl
    · rw [if_neg h, if_neg h, goB_eq r (t ++ [p])]; rfl
theorem seB_eq : ∀ (r t : List Pr) (best : Option (List Pr)), seB W r t best = (enS r t).foldl (upO W) best
  | [], _, _ => rfl
  | p :: r, t, best => by
    rw [seB, seB_eq r t, enS, List.foldl_append]
    congr 1
    by_cases h : clashP t p = true
    · rw [if_pos h, if_pos h]; rfl
    · rw [if_neg h, if_neg h, seB_eq r (t ++ [p])]
theorem mem_enS : ∀ {r t x : List Pr}, x ∈ enS r t ↔ x = t ∨ x ∈ enG r t
  | [], t, x => by simp [enS, enG]
  | p :: r, t, x => by
    rw [enS, enG, List.mem_append, List.mem_append, mem_enS (r := r) (t := t)]
    by_cases h : clashP t p = true
    · rw [if_pos h, if_pos h]; simp
    · rw [if_neg h, if_neg h, mem_enS (r := r) (t := t ++ [p]), List.mem_cons]
      constructor
      · rintro ((h | h) | h | h)
        · exact .inr (.inl (.inl h))
        · exact .inr (.inl (.inr h))
        · exact .inl h
        · exact .inr (.inr h)
      · rintro (h | (h | h) | h)
        · exact .inr (.inl h)
        · exact .inl (.inl h)
        · exact .inl (.inr h)
        · exact .inr (.inr h)
/-- the best of a list -/
structure BestOf (W : Pr → Int) (L : List (List Pr)) (m : List Pr) : Prop where
  mem : m ∈ L
  best : ∀ x ∈ L, ¬ btS W x m
theorem BestOf.eq {L L' : List (List Pr)} {m m' : List Pr} (h : BestOf W L m) (h' : BestOf W L' m') (he : ∀ x, x ∈ L ↔ x ∈ L') : m = m' := by
  rcases btS_tri (W := W) m m' with k | k | k
  · exact absurd k (h'.best m ((he m).1 h.mem))
  · exact k
  · exact absurd k (h.best m' ((he m').2 h'.mem))
theorem upB_best {L : List (List Pr)} {m x : List Pr} (h : BestOf W L m) : BestOf W (L ++ [x]) (upB W m x) := by
  unfold upB
  by_cases hb : btS W x m
  · rw [if_pos hb]
    refine ⟨List.mem_append_right _ List.mem_cons_self, fun y hy => ?_⟩
    rcases List.mem_append.1 hy with hy | hy
    · intro hyx
      exact h.best y hy (btS_trans hyx hb)
    · obtain rfl := List.mem_singleton.1 hy
      exact btS_irr y
  · rw [if_neg hb]
    refine ⟨List.mem_append_left _ h.mem, fun y hy => ?_⟩
    rcases List.mem_append.1 hy with hy | hy
    · exact h.best y hy
    · obtain rfl := List.mem_singleton.1 hy
      exact hb
theorem foldl_best : ∀ {M L : List (List Pr)} {m : List Pr}, BestOf W L m → BestOf W (L ++ M) (M.foldl (upB W) m)
  | [], L, m, h => by rw [List.append_nil]; exact h
  | x :: M, L, m, h => by
    rw [List.foldl_cons, show L ++ x :: M = (L ++ [x]) ++ M from by simp]
    exact foldl_best (upB_best h)
theorem foldlO_some : ∀ (M : List (List Pr)) (m : List Pr), M.foldl (upO W) (some m) = some (M.foldl (upB W) m)
  | [], _ => rfl
  | x :: M, m => by rw [List.foldl_cons, List.foldl_cons]; exact foldlO_some M (upB W m x)
theorem one_best (m : List Pr) : BestOf W [m] m := ⟨List.mem_cons_self, fun x hx => by obtain rfl := List.mem_singleton.1 hx; exact btS_irr x⟩
theorem goB_best (r : List Pr) : BestOf W (enS r []) (goB W r [] []) := by
  have h := foldl_best (M := enG r []) (one_best (W := W) [])
  rw [← goB_eq] at h
  refine ⟨mem_enS.2 (by have := h.mem; simpa using this), fun x hx => h.best x ?_⟩
  have := mem_enS.1 hx
  simpa using this
theorem enS_ne (r t : List Pr) : enS r t ≠ [] := by
  have h : t ∈ enS r t := mem_enS.2 (.inl rfl)
  intro e; rw [e] at h; cases h
theorem seB_best (r : List Pr) : seB W r [] none = some (goB W r [] []) := by
  rw [seB_eq]
  obtain ⟨x, L, e⟩ := List.exists_cons_of_ne_nil (enS_ne r [])
  rw [e, List.foldl_cons, show upO W none x = some x from rfl, foldlO_some]
  congr 1
  have h := foldl_best (M := L) (one_best (W := W) x)
  refine h.eq (goB_best r) fun y => ?_
  rw [e]; simp
/-! ## Which lists are assignments -/
def matchP : List Pr → Prop := List.Pairwise fun p q => p.1 ≠ q.1 ∧ p.2 ≠ q.2
theorem clashP_false {t : List Pr} {p : Pr} : ¬ clashP t p = true ↔ ∀ q ∈ t, q.1 ≠ p.1 ∧ q.2 ≠ p.2 := by
  unfold clashP
  rw [List.any_eq_true]
  constructor
  · intro h q hq
    exact ⟨fun e => h ⟨q, hq, decide_eq_true (.inl e)⟩, fun e => h ⟨q, hq, decide_eq_true (.inr e)⟩⟩
  · rintro h ⟨q, hq, e⟩
    rcases of_decide_eq_true e with e | e
    · exact (h q hq).1 e
    · exact (h q hq).2 e
theorem mem_enS_iff : ∀ {r t x : List Pr}, matchP t → (x ∈ enS r t ↔ ∃ y, y.Sublist r ∧ x = t ++ y ∧ matchP x)
  | [], t, x, ht => by
    rw [enS, List.mem_singleton]
    constructor
    · rintro rfl; exact ⟨[], List.Sublist.slnil, by simp, ht⟩
    · rintro ⟨y, hy, rfl, _⟩
      rw [List.sublist_nil.1 hy, List.append_nil]
  | p :: r, t, x, ht => by
    rw [enS, List.mem_append, mem_enS_iff (r := r) (t := t) ht]
    have h1 : (x ∈ (if clashP t p = true then [] else enS r (t ++ [p]))) ↔ ∃ y, y.Sublist r ∧ x = t ++ p :: y ∧ matchP x := by
      by_cases h : clashP t p = true
      · rw [if_pos h]
        constructor
        · intro h'; cases h'
        · rintro ⟨y, hy, rfl, hm⟩
          refine absurd h (clashP_false.2 fun q hq => ?_)
          exact (List.pairwise_append.1 hm).2.2 q hq p List.mem_cons_self
      · rw [if_neg h]
        have hm : matchP (t ++ [p]) := List.pairwise_append.2 ⟨ht, List.pairwise_singleton _ _, fun a ha b hb => by
          obtain rfl := List.mem_singleton.1 hb
          exact clashP_false.1 h a ha⟩
        rw [mem_enS_iff (r := r) (t := t ++ [p]) hm]
        constructor
        · rintro ⟨y, hy, rfl, hx⟩; exact ⟨y, hy, by simp, hx⟩
        · rintro ⟨y, hy, rfl, hx⟩; exact ⟨y, hy, by simp, hx⟩
    rw [h1]
    constructor
    · rintro (⟨y, hy, rfl, hx⟩ | ⟨y, hy, rfl, hx⟩)
      · exact ⟨p :: y, hy.cons_cons p, rfl, hx⟩
      · exact ⟨y, hy.cons p, rfl, hx⟩
    · rintro ⟨y, hy, rfl, hx⟩
      cases hy with
      | cons _ h => exact .inr ⟨y, h, rfl, hx⟩
      | cons_cons _ h => exact .inl ⟨_, h, rfl, hx⟩
/-- the best assignment is one, and none weighs more -/
theorem goB_spec (r : List Pr) : (goB W r [] []).Sublist r ∧ matchP (goB W r [] []) ∧ ∀ y : List Pr, y.Sublist r → matchP y → sumW W y ≤ sumW W (goB W r [] []) := by
  have h := goB_best (W := W) r
  obtain ⟨y, hy, e, hm⟩ := (mem_enS_iff (List.Pairwise.nil : matchP [])).1 h.mem
  rw [List.nil_append] at e
  refine ⟨by rw [e]; exact hy, hm, fun z hz hm' => ?_⟩
  have := h.best z ((mem_enS_iff (List.Pairwise.nil : matchP [])).2 ⟨z, hz, rfl, hm'⟩)
  exact Int.not_lt.1 fun h' => this (.inl h')
theorem goB_len (K : Nat) : ∀ (r t best : List Pr), t.length + r.length ≤ K → best.length ≤ K → (goB W r t best).length ≤ K
  | [], _, _, _, hb => hb
  | p :: r, t, best, h, hb => by
    rw [List.length_cons] at h
    rw [goB]
    refine goB_len K r t _ (by omega) ?_
    by_cases hc : clashP t p = true
    · rw [if_pos hc]; exact hb
    · rw [if_neg hc]
      refine goB_len K r _ _ (by rw [List.length_append, List.length_singleton]; omega) ?_
      unfold upB
      split
      · rw [List.length_append, List.length_singleton]; omega
      · exact hb
theorem upB_len {K : Nat} {best x : List Pr} (h : x.length ≤ K) (hb : best.length ≤ K) : (upB W best x).length ≤ K := by
  unfold upB; split <;> assumption
theorem goB_step {pr t best : List Pr} {i : Nat} (h : i < pr.length) : goB W (pr.drop i) t best = goB W (pr.drop (i + 1)) t (if clashP t (pr.getD i dP) = true then best else goB W (pr.drop (i + 1)) (t ++ [pr.getD i dP]) (upB W best (t ++ [pr.getD i dP]))) := by
  rw [drop_at h, goB]
theorem goB_end {pr t best : List Pr} {i : Nat} (h : pr.length ≤ i) : goB W (pr.drop i) t best = best := by rw [List.drop_of_length_le h, goB]
theorem btS_gt {x y : List Pr} (h : sumW W y < sumW W x) : btS W x y := .inl h
theorem btS_eq {x y : List Pr} (h : sumW W x = sumW W y) (h2 : cmpLP x y < 0) : btS W x y := .inr ⟨h, h2⟩
theorem not_btS {x y : List Pr} (h : ¬ sumW W y < sumW W x) (h2 : sumW W x = sumW W y → ¬ cmpLP x y < 0) : ¬ btS W x y := fun hb => hb.elim h fun h' => h2 h'.1 h'.2
end
end Go.Fw

/- Chapter 18: how many numbers there are; what Best returns. Plain. -/
namespace Go.Fw
open Go Go.RowKit
theorem nodup_perm {l m : List Int} (hl : l.Nodup) (hm : m.Nodup) (h : ∀ x, x ∈ l ↔ x ∈ m) : l.length = m.length := ((List.perm_ext_iff_of_nodup hl hm).2 h).length_eq
theorem AscI.nodup {l : List Int} (h : AscI l) : l.Nodup := h.imp fun hxy e => by omega
theorem srtI_le (L : List Int) : ∀ i j, i < j → j < (srtI L).length → (srtI L).getD i 0 ≤ (srtI L).getD j 0 := fun i j hij hj => by
  have := List.pairwise_iff_getElem.1 (srtI_mono L) i j (by omega) hj hij
  rw [List.getD_eq_getElem?_getD, List.getD_eq_getElem?_getD, List.getElem?_eq_getElem hj, List.getElem?_eq_getElem (by omega)]
  exact this
/-- the sorted numbers, each once -/
def unI (L : List Int) : List Int := cpG 0 (srtI L) (srtI L).length
theorem unI_asc (L : List Int) : AscI (unI L) := cpI_asc (srtI_le L) (Nat.le_refl _)
theorem mem_unI {L : List Int} {x : Int} : x ∈ unI L ↔ x ∈ L := cpI_mem.trans mem_srtI
def ndI (L : List Int) : Nat := (unI L).length
theorem ndI_le (L : List Int) : ndI L ≤ L.length := by
  have := cpG_len (z := (0 : Int)) (srtI L) (srtI L).length
  rw [srtI_len] at this
  exact Nat.le_trans (Nat.le_of_eq (by unfold ndI unI; rw [srtI_len])) this
/-- numbers in the order in which they come, each once -/
def addI (o : List Int) (x : Int) : List Int := if x ∈ o then o else o ++ [x]
theorem mem_addI {o : List Int} {x y : Int} : y ∈ addI o x ↔ y ∈ o ∨ y = x := by
  unfold addI
  split
  · rename_i h; exact ⟨.inl, fun h' => h'.elim id fun e => by rw [e]; exact h⟩
  · rw [List.mem_append, List.mem_singleton]
theorem addI_nodup {o : List Int} {x : Int} (h : o.Nodup) : (addI o x).Nodup := by
  unfold addI
  split
  · exact h
  · rename_i hx; exact nodup_snoc.2 ⟨h, hx⟩
def dedI (L : List Int) : List Int := L.foldl addI []
theorem dedI_snoc (L : List Int) (x : Int) : dedI (L ++ [x]) = addI (dedI L) x := by unfold dedI; rw [List.foldl_append]; rfl
theorem snoc_indI {M : List Int → Prop} (h0 : M []) (hs : ∀ l p, M l → M (l ++ [p])) (l : List Int) : M l := snoc_ind h0 hs l
theorem dedI_nodup (L : List Int) : (dedI L).Nodup := by
  refine snoc_indI (M := fun L => (dedI L).Nodup) List.nodup_nil (fun l p ih => ?_) L
  rw [dedI_snoc]; exact addI_nodup ih
theorem mem_dedI {L : List Int} {x : Int} : x ∈ dedI L ↔ x ∈ L := by
  refine snoc_indI (M := fun L => x ∈ dedI L ↔ x ∈ L) Iff.rfl (fun l p ih => ?_) L
  rw [dedI_snoc, mem_addI, ih, List.mem_append, List.mem_singleton]
theorem dedI_len (L : List Int) : (dedI L).length ≤ L.length := by
  refine snoc_indI (M := fun L => (dedI L).length ≤ L.length) (Nat.le_refl _) (fun l p ih => ?_) L
  rw [dedI_snoc, List.length_append, List.length_singleton]
  unfold addI
  split
  · omega
  · rw [List.length_append, List.length_singleton]; omega
theorem ndI_ded {L M : List Int} (h : ∀ x, x ∈ L ↔ x ∈ M) : (dedI L).length = ndI M :=
  nodup_perm (dedI_nodup L) (unI_asc M).nodup fun x => by rw [mem_dedI, mem_unI]; exact h x
/-- how often a pair occurs -/
abbrev wtP (l : List Pr) : Pr → Int := fun p => getM 0 p (cntM l)
theorem wtP_in {l : List Pr} (hl : l.length ≤ 1000000) (p : Pr) : 0 ≤ wtP l p ∧ wtP l p ≤ 1000000 := by
  show 0 ≤ getM 0 p (cntM l) ∧ getM 0 p (cntM l) ≤ 1000000
  rw [cntM_get]
  have := List.count_le_length (a := p) (l := l)
  omega
def errB (a b : List Spc) (side : Int) : Int := if errP a b side ≠ 0 then errP a b side else if 7 < ndI ((prsS a b side).map (·.1)) ∨ 7 < ndI ((prsS a b side).map (·.2)) then 6 else 0
def bstL (l : List Pr) : List Pr := goB (wtP l) (srt l) [] []
def bstS (a b : List Spc) (side : Int) : List Pr := if errB a b side = 0 then bstL (prsS a b side) else []
def bstN (a b : List Spc) (side : Int) : Int := if errB a b side = 0 then sumW (wtP (prsS a b side)) (bstL (prsS a b side)) else 0
theorem errB_p {a b : List Spc} {side : Int} (h : errP a b side ≠ 0) : errB a b side = errP a b side := if_pos h
theorem errB_6 {a b : List Spc} {side : Int} (h : ¬ errP a b side ≠ 0) (h2 : 7 < ndI ((prsS a b side).map (·.1)) ∨ 7 < ndI ((prsS a b side).map (·.2))) : errB a b side = 6 := by unfold errB; rw [if_neg h, if_pos h2]
theorem errB_0 {a b : List Spc} {side : Int} (h : ¬ errP a b side ≠ 0) (h2 : ndI ((prsS a b side).map (·.1)) ≤ 7) (h3 : ndI ((prsS a b side).map (·.2)) ≤ 7) : errB a b side = 0 := by unfold errB; rw [if_neg h, if_neg (by omega)]
theorem bst_no {a b : List Spc} {side : Int} (h : errB a b side ≠ 0) : bstS a b side = [] ∧ bstN a b side = 0 := ⟨if_neg h, if_neg h⟩
theorem bst_yes {a b : List Spc} {side : Int} (h : errB a b side = 0) : bstS a b side = bstL (prsS a b side) ∧ bstN a b side = sumW (wtP (prsS a b side)) (bstL (prsS a b side)) := ⟨if_pos h, if_pos h⟩
theorem prsS_len (a b : List Spc) (side : Int) : (prsS a b side).length ≤ a.length := by
  unfold prsS
  split
  · rw [List.length_map]; exact comS_len a b
  · exact Nat.zero_le _
theorem bstL_len (l : List Pr) : (bstL l).length ≤ l.length := goB_len l.length (srt l) [] [] (by rw [List.length_nil, Nat.zero_add]; exact srt_len l) (Nat.zero_le _)
theorem upB_self (W : Pr → Int) (x : List Pr) : upB W x x = x := by unfold upB; rw [if_neg (btS_irr x)]
theorem mapP_step {f : Pr → Int} {l : List Pr} {i : Nat} (h : i < l.length) : (l.take (i + 1)).map f = (l.take i).map f ++ [f (l.getD i dP)] := by
  rw [takeP_succ h, List.map_append]; rfl
end Go.Fw
