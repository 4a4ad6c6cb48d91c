/- Chapter 16: lists of rows and of links in memory. -/
import Derived.Test.YtmambmpohkollaaGreatDoorFwXY
import Derived.Test.YtmambmpohkollaaGreatDoorFwMN
import Derived.Test.YtmambmpohkollaaGreatDoorCcAB
namespace Go.Fw.Cn
open Go Go.RowKit Go.Fw
/-- A row in memory. -/
structure Rw where
  ad : Option Addr
  cap : Nat
  L : List Int
def dR : Rw := ⟨none, 0, []⟩
instance : Inhabited Rw := ⟨dR⟩
abbrev Rw.v (r : Rw) : Value := .slice r.ad r.L.length r.cap
abbrev rws (l : List Rw) : List Value := l.map Rw.v
def vRws (l : List Rw) : VP := ⟨fun X w => ∀ r ∈ l, CellsAt X w r.ad (i64s r.L), fun _ _ _ _ h _ b c r hr => (h r hr).mono b c⟩
theorem rws_length (l : List Rw) : (rws l).length = l.length := List.length_map _
theorem rws_get {l : List Rw} {i : Nat} (h : i < l.length) : (rws l)[i]? = some ((l.getD i dR).v) := by
  rw [List.getElem?_map, List.getD_eq_getElem?_getD, List.getElem?_eq_getElem h]; rfl
theorem rws_one (l : List Rw) : AllOne (rws l) := fun v hv => by
  obtain ⟨x, _, rfl⟩ := List.mem_map.1 hv
  rfl
theorem rws_app (l m : List Rw) : rws l ++ rws m = rws (l ++ m) := List.map_append.symm
theorem rw_mem {l : List Rw} {i : Nat} (h : i < l.length) : l.getD i dR ∈ l := by
  rw [List.getD_eq_getElem?_getD, List.getElem?_eq_getElem h]; exact List.getElem_mem h
theorem takeR_succ {l : List Rw} {i : Nat} (h : i < l.length) : l.take (i + 1) = l.take i ++ [l.getD i dR] := by
  rw [List.take_add_one, List.getD_eq_getElem?_getD, List.getElem?_eq_getElem h]; rfl
abbrev Rls (l : List Rw) : List (List Int) := l.map Rw.L
section
variable {P : Program} {Q : Exit → Act → World → Prop} {w0 : Ctx} {σ : List Res} {φ : List (Bool × VP)} {fr : Go.Fw.Fr} {ops : Array Oper} {lo : List Oper} {c : Code} {f : Bool}
theorem JC_rwGet {l : List Rw} (r : Rw) (h : (f, vRws l) ∈ φ) (hr : r ∈ l) (k : JC P c Q w0 σ ((f, vCells r.ad (i64s r.L)) :: φ) fr) : JC P c Q w0 σ φ fr := JC_addView (p := vCells r.ad (i64s r.L)) (f := f) (fun _ s => s.views _ h r hr) k
theorem JL_rwGet {l : List Rw} (r : Rw) (h : (f, vRws l) ∈ φ) (hr : r ∈ l) (k : JL P ops Q w0 σ ((f, vCells r.ad (i64s r.L)) :: φ) lo fr) : JL P ops Q w0 σ φ lo fr := JL_addView (p := vCells r.ad (i64s r.L)) (f := f) (fun _ s => s.views _ h r hr) k
theorem JC_rwNil (k : JC P c Q w0 σ ((true, vRws []) :: φ) fr) : JC P c Q w0 σ φ fr := JC_addView (p := vRws []) (f := true) (fun _ _ _ hx => by cases hx) k
theorem JE_rwNil {e : Exit} (k : JE Q e w0 σ ((true, vRws []) :: φ) fr) : JE Q e w0 σ φ fr := JE_addView (p := vRws []) (f := true) (fun _ _ _ hx => by cases hx) k
theorem JL_rwSnoc {l : List Rw} {ad : Option Addr} {cp : Nat} {L : List Int} (h : (f, vRws l) ∈ φ) (h2 : (f, vCells ad (i64s L)) ∈ φ) (k : JL P ops Q w0 σ ((f, vRws (l ++ [⟨ad, cp, L⟩])) :: φ) lo fr) : JL P ops Q w0 σ φ lo fr :=
  JL_addView (p := vRws (l ++ [⟨ad, cp, L⟩])) (f := f) (fun _ s r hr => by
    rcases List.mem_append.1 hr with hr | hr
    · exact s.views _ h r hr
    · rw [List.mem_singleton.1 hr]; exact s.views _ h2) k
end
theorem nilRL {w0 : Ctx} {σ : List Res} {φ : List (Bool × VP)} {w : World} (s : St w0 w σ φ) {f : Bool} {ad : Option Addr} {l : List Rw} (h : (f, vCells ad (rws l)) ∈ φ) (ha : ad.isNone = true) : l = [] := by
  cases l with
  | nil => rfl
  | cons x l =>
    have hv : CellsAt (Xof w0 σ f) w ad (rws (x :: l)) := s.views _ h
    obtain ⟨b, o, e, _⟩ := hv 0 x.v rfl
    rw [e] at ha; cases ha
theorem nilIL {w0 : Ctx} {σ : List Res} {φ : List (Bool × VP)} {w : World} (s : St w0 w σ φ) {f : Bool} {ad : Option Addr} {l : List Int} (h : (f, vCells ad (i64s l)) ∈ φ) (ha : ad.isNone = true) : l = [] := by
  cases l with
  | nil => rfl
  | cons x l =>
    have hv : CellsAt (Xof w0 σ f) w ad (i64s (x :: l)) := s.views _ h
    obtain ⟨b, o, e, _⟩ := hv 0 (.int .i64 x) rfl
    rw [e] at ha; cases ha
theorem getD_setR (m : List Rw) (i j : Nat) (x : Rw) (h : i < m.length) : (m.set i x).getD j dR = if i = j then x else m.getD j dR := by
  rw [List.getD_eq_getElem?_getD, List.getElem?_set]
  split
  · rfl
  · rw [List.getD_eq_getElem?_getD]
theorem rws_set (m : List Rw) (i : Nat) (x : Rw) : setAll (rws m) i [x.v] = rws (m.set i x) := by
  simp only [setAll, updL_set]
  exact (List.map_set (f := Rw.v)).symm
def zs (l : List Nat) : List Int := l.map fun (n : Nat) => (n : Int)
theorem rwsTake {X : Nat → Prop} {w : World} {ad : Option Addr} {l : List Rw} (k : Nat) (h : (vCells ad (rws l)).holds X w) : (vCells ad (rws (l.take k))).holds X w := by
  intro j u hj
  rw [List.getElem?_map, List.getElem?_take] at hj
  split at hj
  · exact h j u (by rw [List.getElem?_map]; exact hj)
  · cases hj
theorem rwsDrop {X : Nat → Prop} {w : World} {ad : Option Addr} {l : List Rw} (c k : Nat) (hc : l.length ≤ c) (h : (vCells ad (rws l)).holds X w) : (vCells (subAd ad c k 1) (rws (l.drop k))).holds X w := by
  intro j u hj
  rw [List.getElem?_map, List.getElem?_drop] at hj
  obtain ⟨b, o, he, hX, hcell⟩ := h (k + j) u (by rw [List.getElem?_map]; exact hj)
  have hlt : k + j < l.length := by
    cases e : l[k + j]? with
    | none => rw [e] at hj; cases hj
    | some r => exact (List.getElem?_eq_some_iff.1 e).1
  subst he
  unfold subAd
  split
  · rename_i e; omega
  · exact ⟨b, o + k * 1, by simp [Addr.add], hX, by rw [Nat.mul_one, Nat.add_assoc]; exact hcell⟩
theorem zs_length (l : List Nat) : (zs l).length = l.length := List.length_map _
theorem zs_snoc (l : List Nat) (v : Nat) : zs (l ++ [v]) = zs l ++ [(v : Int)] := by unfold zs; rw [List.map_append]; rfl
theorem zs_mem {l : List Nat} {v : Nat} : ((v : Int) ∈ zs l) ↔ v ∈ l := by
  unfold zs
  rw [List.mem_map]
  exact ⟨fun ⟨x, hx, e⟩ => by obtain rfl : x = v := by omega
                              exact hx, fun h => ⟨v, h, rfl⟩⟩
theorem zs_get {l : List Nat} {i : Nat} (h : i < l.length) : (zs l).getD i 0 = ((l.getD i 0 : Nat) : Int) := by
  unfold zs
  rw [List.getD_eq_getElem?_getD, List.getElem?_map, List.getD_eq_getElem?_getD, List.getElem?_eq_getElem h]; rfl
theorem Rls_get {l : List Rw} {i : Nat} (h : i < l.length) : (l.getD i dR).L = (Rls l).getD i [] := by
  rw [List.getD_eq_getElem?_getD, List.getD_eq_getElem?_getD, List.getElem?_map, List.getElem?_eq_getElem h]; rfl
/-! ## Links -/
structure Lk where
  id : Int
  o : Int
  r : Int
def dK : Lk := ⟨0, 0, 0⟩
instance : Inhabited Lk := ⟨dK⟩
abbrev lk (x : Lk) : List Value := [.int .i64 x.id, .int .i64 x.o, .int .i64 x.r]
theorem lk_len (x : Lk) : (lk x).length = 3 := rfl
abbrev lks (l : List Lk) : List Value := fcl lk l
theorem lks_length (l : List Lk) : (lks l).length = l.length * 3 := fcl_len lk_len l
theorem lks_get {l : List Lk} {j : Nat} (h : j < l.length) (m : Nat) (v : Value) (hv : (lk (l.getD j dK))[m]? = some v) : (lks l)[j * 3 + m]? = some v := fcl_getA lk_len h m v hv
theorem allOne_lk (x : Lk) : AllOne (lk x) := AllOne.cons rfl (AllOne.cons rfl (AllOne.cons rfl AllOne.nil))
theorem lks_one (l : List Lk) : AllOne (lks l) := allOne_fcl allOne_lk l
/-- A graph. -/
structure Gr where
  O : List Int
  R : List Int
  K : List Lk
end Go.Fw.Cn
