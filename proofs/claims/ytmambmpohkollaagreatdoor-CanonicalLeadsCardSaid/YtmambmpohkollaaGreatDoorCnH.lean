/- Chapter 16: rows in memory that are made one after the other. -/
import Derived.Test.YtmambmpohkollaaGreatDoorCnG
import Derived.Test.YtmambmpohkollaaGreatDoorFwEE
namespace Go.Fw.Cn
open Go Go.RowKit Go.Fw
theorem rws_set_get {D : List Rw} {c : Nat} {r : Rw} (h : c < D.length) : (rws (D.set c r))[c]? = some r.v := by
  rw [List.getElem?_map, List.getElem?_set_self h]; rfl
theorem colV_zero (M : List (List Int)) (c : Nat) (p : List Nat) : colV M c (p.take 0) = [] := by rw [List.take_zero]; rfl
theorem getN_mem {l : List Nat} {k : Nat} (h : k < l.length) : l.getD k 0 ∈ l := by
  rw [List.getD_eq_getElem?_getD, List.getElem?_eq_getElem h]; exact List.getElem_mem h
section
variable {P : Program} {Q : Exit → Act → World → Prop} {w0 : Ctx} {σ : List Res} {φ : List (Bool × VP)} {fr : Go.Fw.Fr} {c : Code} {f : Bool}
theorem JC_rwRep (n : Nat) (k : JC P c Q w0 σ ((true, vRws (List.replicate n dR)) :: φ) fr) : JC P c Q w0 σ φ fr := JC_addView (p := vRws (List.replicate n dR)) (f := true) (fun _ _ r hr => by
  rw [List.eq_of_mem_replicate hr]
  exact fun j u hj => by cases hj) k
theorem updL_self {α : Type} : ∀ {l : List α} {i : Nat} {r : α}, Nth l i r → updL l i r = l
  | [], _, _, h => h.elim
  | _ :: _, 0, _, h => by rw [updL, show _ = _ from h]
  | a :: l, i + 1, r, h => by rw [updL, updL_self (l := l) (i := i) h]
theorem JC_ownEq {ad : Option Addr} {n cap sz : Nat} {E : TypeId} {xs : List Value} (i : Nat) (xs' : List Value) (h : Nth σ i (osl ad n cap E sz xs)) (e : xs' = xs) (k : JC P c Q w0 (updL σ i (osl ad n cap E sz xs')) φ fr) : JC P c Q w0 σ φ fr := by
  subst e
  rwa [updL_self h] at k
theorem JC_rwSet {D : List Rw} (i : Nat) (r : Rw) (h : (f, vRws D) ∈ φ) (h2 : (f, vCells r.ad (i64s r.L)) ∈ φ) (k : JC P c Q w0 σ ((f, vRws (D.set i r)) :: φ) fr) : JC P c Q w0 σ φ fr := JC_addView (p := vRws (D.set i r)) (f := f) (fun _ s x hx => by
  rcases List.mem_or_eq_of_mem_set hx with hx | rfl
  · exact s.views _ h x hx
  · exact s.views _ h2) k
end
end Go.Fw.Cn
