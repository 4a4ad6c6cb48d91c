/- The program logic: maps that the call has made, as lists of keys with values; iterators over them. -/
import Derived.Test.YtmambmpohkollaaGreatDoorFwTW
import Derived.Maps.Keyed
import Derived.Maps.RangeRun
import Derived.RangeFuncBox
import Derived.OwnWalkIn
namespace Go.Fw
open Go Go.RowKit

/-! ## Lists of keys with values -/
section plain
variable {α β : Type}
def mE (ek : α → Value) (ev : β → Value) : List (α × β) → Nat → List MapEntry
  | [], _ => []
  | p :: l, n => ⟨ek p.1, ev p.2, n⟩ :: mE ek ev l (n + 1)
variable {ek : α → Value} {ev : β → Value}
theorem mE_get : ∀ (l : List (α × β)) (n j : Nat), (mE ek ev l n)[j]? = (l[j]?).map fun p => ⟨ek p.1, ev p.2, n + j⟩
  | [], _, _ => by simp [mE]
  | p :: l, n, 0 => by simp [mE]
  | p :: l, n, j + 1 => by rw [mE, List.getElem?_cons_succ, mE_get l, List.getElem?_cons_succ, show n + 1 + j = n + (j + 1) from by omega]
theorem mE_mem {l : List (α × β)} {n : Nat} {e : MapEntry} (h : e ∈ mE ek ev l n) : ∃ j p, l[j]? = some p ∧ e = ⟨ek p.1, ev p.2, n + j⟩ := by
  obtain ⟨j, hj⟩ := List.mem_iff_getElem?.1 h
  rw [mE_get] at hj
  cases hp : l[j]? with
  | none => rw [hp] at hj; cases hj
  | some p => rw [hp] at hj; exact ⟨j, p, hp, (Option.some.inj hj).symm⟩
variable [DecidableEq α]
end plain

/-! ## A map's block -/
def mapR (b : Nat) (es : List MapEntry) (c : Nat) : Res where
  key := some b
  holds w := w.heap[b]? = some (.map es.toArray c)
  lt w h k hk := by
    obtain rfl : b = k := by simpa using hk
    exact (Array.getElem?_eq_some_iff.1 h).1
  mono w w' h hk := (hk b rfl).trans h
/-- A kind of keys. -/
structure KeyT (P : Program) (kt : TypeId) {α : Type} (ek : α → Value) : Prop where
  inj : ∀ {a b : α}, ek a = ek b → a = b
  check : ∀ (w : World) (em : Bool) (a : α), (Instr.checkKey em 10000 kt (ek a)).run P w = .ok () w
  find : ∀ (w : World) (a : α) (es : List MapEntry), (∀ e ∈ es, ∃ b, e.key = ek b) →
    ((Instr.findKey kt (ek a) es).run P w = .ok none w ∧ ∀ e ∈ es, e.key ≠ ek a) ∨ ∃ j e, (Instr.findKey kt (ek a) es).run P w = .ok (some (j, e.val)) w ∧ es[j]? = some e ∧ e.key = ek a
  stays : ∀ (w : World) (a : α), (Instr.keyThatStays (ek a) (ek a)).run P w = .ok (ek a) w
abbrev iv (n : Int) : Value := .int .i64 n
theorem KeyT.int {P : Program} {kt : TypeId} (hk : P.underlying kt = some (.int .i64)) : KeyT P kt iv where
  inj h := by simpa using h
  check w em a := MapKept.run_checkKey hk (by simp [MapKept.IsKey]) em 9999
  find w a es hes := by
    rcases MapKept.findNow_spec (d := .int .i64) (k := iv a) (by simp [MapKept.IsKey]) es 0 (fun e he => by obtain ⟨b, hb⟩ := hes e he; rw [hb]; simp [MapKept.IsKey]) with ⟨h1, h2⟩ | ⟨j, e0, h1, h2, h3⟩
    · exact .inl ⟨MapKept.run_findKey hk h1, h2⟩
    · exact .inr ⟨j, e0, by simpa using MapKept.run_findKey hk h1, h2, h3⟩
  stays w a := MapKept.run_keyThatStays (d := .int .i64) (by simp [MapKept.IsKey])
section
variable {α β : Type} {ek : α → Value} {ev' : β → Value} {P : Program} {kt : TypeId} {l : List (α × β)}
end

/-! ## The operations -/
theorem mapR_set {w : World} {b : Nat} {o o' : Obj} (h : w.heap[b]? = some o) : (ChangeMaps.setBlock w b o').heap[b]? = some o' := by
  have := (Array.getElem?_eq_some_iff.1 h).1
  show (w.heap.setIfInBounds b o')[b]? = _
  rw [Array.getElem?_setIfInBounds]; simp [this]
theorem setBlock_other {w : World} {b k : Nat} {o' : Obj} (h : b ≠ k) : (ChangeMaps.setBlock w b o').heap[k]? = w.heap[k]? := by
  show (w.heap.setIfInBounds b o')[k]? = _
  rw [Array.getElem?_setIfInBounds]; simp [h]
section
variable {P : Program} {Q : Exit → Act → World → Prop} {w0 : Ctx} {σ σ' : List Res} {φ φ' : List (Bool × VP)} {fr : Fr} {ops : Array Oper} {rest : List Oper}
  {d : Nat} {ty : TypeId} {pos : String} {aft : Array Edge}
theorem St.setMap {w : World} (s : St w0 w σ φ) {i b : Nat} {es : List MapEntry} {c : Nat} (es' : List MapEntry) (c' : Nat) (hσ : Nth σ i (mapR b es c)) : St w0 (ChangeMaps.setBlock w b (.map es'.toArray c')) (updL σ i (mapR b es' c')) φ := by
  rw [updL_set]
  have hb : (mapR b es c).holds w := s.own _ hσ.mem
  refine s.setRes i (mapR b es c) (mapR b es' c') hσ.get (by simp [ChangeMaps.setBlock]) rfl rfl rfl ?_ (mapR_set hb) (fun k hk => .inl hk)
  intro k _ hne
  exact setBlock_other (fun e => hne (by simp [mapR, e]))
variable {α β : Type} [DecidableEq α] {ek : α → Value} {ev' : β → Value} {t kt et : TypeId} {l : List (α × β)} {b : Nat}
omit [DecidableEq α] in
end

end Go.Fw

/- Iterators over maps that read as lists of keys with values: the steps, and what has come. -/
namespace Go.Fw
open Go Go.RowKit
section
variable {F : Fence} {n : Nat} {P : Program} (w : World) {ops : Array Oper} {rest : List Oper} {o : Oper} {a : Act} {Q : Exit → Act → World → Prop}
end
section
variable {α β : Type} {ek : α → Value} {ev' : β → Value}
theorem nodup_leP {α : Type} [DecidableEq α] {l m : List α} (h : l.Nodup) (hs : ∀ x ∈ l, x ∈ m) : l.length ≤ m.length := by
  induction l generalizing m with
  | nil => exact Nat.zero_le _
  | cons a t ih =>
    have hn := List.nodup_cons.1 h
    have ha := hs a List.mem_cons_self
    have := ih (m := m.erase a) hn.2 fun x hx => (List.mem_erase_of_ne (fun e => hn.1 (by rw [← e]; exact hx))).2 (hs x (List.mem_cons_of_mem _ hx))
    rw [List.length_erase_of_mem ha] at this
    have := List.length_pos_of_mem ha
    rw [List.length_cons]; omega
theorem nodup_le {l m : List Nat} (h : l.Nodup) (hs : ∀ x ∈ l, x ∈ m) : l.length ≤ m.length := nodup_leP h hs
/-- What has come. -/
def Came (l : List (α × β)) (seen : Array Nat) (ss : List α) : Prop := seen.toList.Nodup ∧ (∀ j ∈ seen.toList, j < l.length) ∧ ss = seen.toList.filterMap fun j => (l[j]?).map (·.1)
theorem Came.start (l : List (α × β)) : Came l #[] [] := ⟨List.nodup_nil, (fun _ h => by simp at h), rfl⟩
theorem Came.step {l : List (α × β)} {seen : Array Nat} {ss : List α} (h : Came l seen ss) {e : MapEntry} (he : e ∈ (leftOf (mE ek ev' l 0).toArray seen).toList) :
    ∃ p, p ∈ l ∧ e.key = ek p.1 ∧ e.val = ev' p.2 ∧ Came l (seen.push e.born) (ss ++ [p.1]) ∧ ss.length < l.length := by
  obtain ⟨h1, h2, rfl⟩ := h
  obtain ⟨hm, hc⟩ := mem_left he
  obtain ⟨j, p, hj, rfl⟩ := mE_mem (show e ∈ mE ek ev' l 0 from hm)
  have hlt := (List.getElem?_eq_some_iff.1 hj).1
  have hj' : j ∉ seen.toList := fun hx => by
    have : seen.contains (0 + j) = true := by rw [Nat.zero_add, Array.contains_iff_mem]; exact Array.mem_toList_iff.1 hx
    rw [this] at hc; cases hc
  have hn : (seen.toList ++ [j]).Nodup := List.nodup_append.2 ⟨h1, by simp, fun a ha b hb e => by simp only [List.mem_singleton] at hb; subst hb e; exact hj' ha⟩
  have hle : (seen.toList ++ [j]).length ≤ (List.range l.length).length := by
    refine nodup_le hn fun x hx => ?_
    rcases List.mem_append.1 hx with hx | hx
    · exact List.mem_range.2 (h2 x hx)
    · rw [List.mem_singleton.1 hx]; exact List.mem_range.2 hlt
  have hfl : (seen.toList.filterMap fun j => (l[j]?).map (·.1)).length ≤ seen.toList.length := List.length_filterMap_le ..
  refine ⟨p, List.mem_of_getElem? hj, rfl, rfl, ⟨by simpa using hn, fun x hx => ?_, ?_⟩, ?_⟩
  · simp only [Nat.zero_add, Array.toList_push, List.mem_append, List.mem_singleton] at hx
    rcases hx with hx | rfl
    · exact h2 x hx
    · exact hlt
  · simp [List.filterMap_append, hj]
  · simp only [List.length_append, List.length_cons, List.length_nil, List.length_range] at hle
    omega
theorem Came.perm {l : List (α × β)} {seen : Array Nat} {ss : List α} (h : Came l seen ss) (h0 : (leftOf (mE ek ev' l 0).toArray seen).size = 0) : ss.Perm (l.map (·.1)) := by
  obtain ⟨h1, h2, rfl⟩ := h
  have hp : seen.toList.Perm (List.range l.length) := by
    refine (List.perm_ext_iff_of_nodup h1 List.nodup_range).2 fun j => ⟨fun hj => List.mem_range.2 (h2 j hj), fun hj => ?_⟩
    have hlt := List.mem_range.1 hj
    have := all_seen _ _ h0 ⟨ek l[j].1, ev' l[j].2, 0 + j⟩ (List.mem_of_getElem? (i := j) (by show (mE ek ev' l 0)[j]? = _; rw [mE_get, List.getElem?_eq_getElem hlt]; rfl))
    rw [Nat.zero_add, Array.contains_iff_mem] at this
    exact Array.mem_toList_iff.2 this
  have e : ∀ l : List (α × β), (List.range l.length).filterMap (fun j => (l[j]?).map (·.1)) = l.map (·.1) := fun l => by
    induction l with
    | nil => rfl
    | cons p l ih => rw [List.length_cons, List.range_succ_eq_map, List.filterMap_cons, List.filterMap_map]; simpa [Function.comp_def] using ih
  rw [← e l]
  exact hp.filterMap _
end
end Go.Fw
