/- Chapter 16: as many own rows as there are: what is owned has a tail whose length turns. -/
import Derived.Test.YtmambmpohkollaaGreatDoorCnK
import Derived.Test.YtmambmpohkollaaGreatDoorFwEE
namespace Go.Fw
open Go Go.RowKit
section
variable {P : Program} {Q : Exit → Act → World → Prop} {w0 : Ctx} {σ σ' σp : List Res} {φ φ' : List (Bool × VP)} {fr fr' : Fr} {ops : Array Oper} {rest : List Oper}
/-- A loop whose own resources have a tail. -/
def NextW {ι : Type} (w0 : Ctx) (σp : List Res) (φ : List (Bool × VP)) (fr : Fr) (C : ι → Prop) (μ : ι → Nat) (ov : (Nat → Value) → ι → List (Option Value)) (os : ι → List (Option Res)) (tl : ι → List Res) (fv : ι → List (Bool × VP)) (n : Nat)
    (Q : Exit → Act → World → Prop) : Exit → Act → World → Prop :=
  Next w0 (fun i : (Nat → Value) × ι => C i.2) (fun i => μ i.2) (fun i => mix σp (os i.2) ++ tl i.2) (fun i => fv i.2 ++ φ) (fun i => mixF fr (ov i.1 i.2)) n Q
theorem JC_loopW {c : Code} (σp : List Res) (ι : Type) (C : ι → Prop) (μ : ι → Nat) (ov : (Nat → Value) → ι → List (Option Value)) (os : ι → List (Option Res)) (tl : ι → List Res) (fv : ι → List (Bool × VP)) (i0 : ι)
    (hfr : mixF fr (ov (look fr) i0) = fr) (hC : C i0) (hσ : mix σp (os i0) ++ tl i0 = σ) (hφ : ∀ p ∈ fv i0, p ∈ φ)
    (round : ∀ u i, C i → JC P c (NextW w0 σp φ fr C μ ov os tl fv (μ i) Q) w0 (mix σp (os i) ++ tl i) (fv i ++ φ) (mixF fr (ov u i))) : JC P (.loop c) Q w0 σ φ fr :=
  JC_loop ((Nat → Value) × ι) (fun i => C i.2) (fun i => μ i.2) (fun i => mix σp (os i.2) ++ tl i.2) (fun i => fv i.2 ++ φ) (fun i => mixF fr (ov i.1 i.2)) (look fr, i0) hfr.symm hC
    (fun w s => by
      simp only [hσ]
      exact s.weaken fun p hp => by
        rcases List.mem_append.1 hp with hp | hp
        · exact hφ p hp
        · exact hp)
    (fun i hC => round i.1 i.2 hC)
theorem JE_nextW {ι : Type} {C : ι → Prop} {μ : ι → Nat} {ov : (Nat → Value) → ι → List (Option Value)} {os : ι → List (Option Res)} {tl : ι → List Res} {fv : ι → List (Bool × VP)} {n : Nat} (i : ι)
    (hfr : mixF fr (ov (look fr') i) = fr') (hC : C i) (hμ : μ i < n) (hσ : mix σp (os i) ++ tl i = σ') (hφ : ∀ p ∈ fv i ++ φ, p ∈ φ') : JE (NextW w0 σp φ fr C μ ov os tl fv n Q) .normal w0 σ' φ' fr' :=
  JE_next (look fr', i) hfr.symm hC hμ fun w s => by
    show St w0 w (mix σp (os i) ++ tl i) (fv i ++ φ)
    rw [hσ]
    exact s.weaken hφ
theorem JE_nextW_exit {ι : Type} {C : ι → Prop} {μ : ι → Nat} {ov : (Nat → Value) → ι → List (Option Value)} {os : ι → List (Option Res)} {tl : ι → List Res} {fv : ι → List (Bool × VP)} {n : Nat} {id : Nat}
    (h : JE Q (.exit id) w0 σ' φ' fr') : JE (NextW w0 σp φ fr C μ ov os tl fv n Q) (.exit id) w0 σ' φ' fr' := fun w st => h w st
theorem JE_nextW_ret {ι : Type} {C : ι → Prop} {μ : ι → Nat} {ov : (Nat → Value) → ι → List (Option Value)} {os : ι → List (Option Res)} {tl : ι → List Res} {fv : ι → List (Bool × VP)} {n : Nat}
    (h : JE Q .ret w0 σ' φ' fr') : JE (NextW w0 σp φ fr C μ ov os tl fv n Q) .ret w0 σ' φ' fr' := fun w st => h w st
theorem JC_loopK {c : Code} (k : Nat) (ι : Type) (C : ι → Prop) (μ : ι → Nat) (ov : (Nat → Value) → ι → List (Option Value)) (os : ι → List (Option Res)) (tl : ι → List Res) (fv : ι → List (Bool × VP)) (i0 : ι)
    (hfr : mixF fr (ov (look fr) i0) = fr) (hC : C i0) (hσ : mix (σ.take k) (os i0) ++ tl i0 = σ) (hφ : ∀ p ∈ fv i0, p ∈ φ)
    (round : ∀ u i, C i → JC P c (NextW w0 (σ.take k) φ fr C μ ov os tl fv (μ i) Q) w0 (mix (σ.take k) (os i) ++ tl i) (fv i ++ φ) (mixF fr (ov u i))) : JC P (.loop c) Q w0 σ φ fr :=
  JC_loopW (σ.take k) ι C μ ov os tl fv i0 hfr hC hσ hφ round
/-- The last resource is put to place k. -/
theorem JL_ins {r : Res} (k : Nat) (h : JL P ops Q w0 (σ.take k ++ r :: σ.drop k) φ rest fr) : JL P ops Q w0 (σ ++ [r]) φ rest fr :=
  JL_conv (fun _ s => s.perm (by
    have h1 : (σ.take k ++ r :: σ.drop k).Perm (r :: σ) := by
      have h2 := List.perm_middle (a := r) (l₁ := σ.take k) (l₂ := σ.drop k)
      rwa [List.take_append_drop] at h2
    exact h1.trans (List.perm_append_singleton r σ).symm)) h
end
theorem JE_ownCap {Q : Exit → Act → World → Prop} {e : Exit} {w0 : Ctx} {σ : List Res} {φ : List (Bool × VP)} {fr : Fr} {ad : Option Addr} {n cap sz : Nat} {E : TypeId} {xs : List Value} (i : Nat) (h : Nth σ i (osl ad n cap E sz xs))
    (k : n ≤ cap ∧ cap ≤ 9223372036854775807 → JE Q e w0 σ φ fr) : JE Q e w0 σ φ fr := JE_fact (fun _ s => osl_cap (s.own _ h.mem)) k
end Go.Fw
namespace Go.Fw.Cn
open Go Go.RowKit Go.Fw
theorem i64sDrop {X : Nat → Prop} {w : World} {ad : Option Addr} {l : List Int} (c k : Nat) (hc : l.length ≤ c) (h : (vCells ad (i64s l)).holds X w) : (vCells (subAd ad c k 1) (i64s (l.drop k))).holds X w := by
  intro j u hj
  have hj' : (i64s l)[k + j]? = some u := by
    unfold i64s at hj ⊢
    rw [List.map_drop, List.getElem?_drop] at hj
    exact hj
  obtain ⟨b, o, he, hX, hcell⟩ := h (k + j) u hj'
  have hlt : k + j < l.length := by
    have := (List.getElem?_eq_some_iff.1 hj').1
    rwa [i64s_length] at this
  subst he
  unfold subAd
  split
  · rename_i e; omega
  · exact ⟨b, o + k * 1, by simp [Addr.add], hX, by rw [Nat.mul_one, Nat.add_assoc]; exact hcell⟩
abbrev rwR (E : TypeId) (r : Rw) : Res := osl r.ad r.L.length r.cap E 1 (i64s r.L)
def rwO (E : TypeId) (D : List Rw) : List Res := D.map (rwR E)
theorem Nth_rwO {E : TypeId} : ∀ {D : List Rw} {i : Nat}, i < D.length → Nth (rwO E D) i (rwR E (D.getD i dR))
  | [], _, h => by cases h
  | _ :: _, 0, _ => rfl
  | _ :: D, i + 1, h => by
    have := Nth_rwO (E := E) (D := D) (i := i) (by simpa using h)
    simpa [rwO, Nth] using this
theorem updL_rwO {E : TypeId} : ∀ {D : List Rw} {i : Nat} {r : Rw}, i < D.length → updL (rwO E D) i (rwR E r) = rwO E (D.set i r)
  | [], _, _, h => by cases h
  | _ :: _, 0, _, _ => rfl
  | d :: D, i + 1, r, h => by
    show rwR E d :: updL (rwO E D) i (rwR E r) = rwR E d :: rwO E (D.set i r)
    rw [updL_rwO (by simpa using h)]
section
variable {P : Program} {Q : Exit → Act → World → Prop} {w0 : Ctx} {σ1 : List Res} {φ : List (Bool × VP)} {fr : Go.Fw.Fr} {ops : Array Oper} {lo : List Oper} {c : Code} {E : TypeId} {D : List Rw}
theorem JL_rowIn (r : Rw) {n : Nat} (hn : r.L.length = n) (h : JL P ops Q w0 (σ1 ++ rwO E (D ++ [r])) φ lo fr) : JL P ops Q w0 ((σ1 ++ rwO E D) ++ [osl r.ad n r.cap E 1 (i64s r.L)]) φ lo fr := by
  subst hn
  have e : (σ1 ++ rwO E D) ++ [rwR E r] = σ1 ++ rwO E (D ++ [r]) := by unfold rwO; rw [List.map_append, List.append_assoc]; rfl
  rw [e]; exact h
theorem Nth_app {α : Type} : ∀ (l : List α) {m : List α} {i : Nat} {r : α}, Nth m i r → Nth (l ++ m) (l.length + i) r
  | [], _, _, _, h => by rw [List.length_nil, Nat.zero_add]; exact h
  | a :: l, m, i, r, h => by
    rw [List.length_cons, show l.length + 1 + i = (l.length + i) + 1 by omega]
    exact Nth_app l h
theorem updL_app {α : Type} : ∀ (l m : List α) (i : Nat) (r : α), updL (l ++ m) (l.length + i) r = l ++ updL m i r
  | [], _, _, _ => by rw [List.length_nil, Nat.zero_add]; rfl
  | a :: l, m, i, r => by
    rw [List.length_cons, show l.length + 1 + i = (l.length + i) + 1 by omega]
    show a :: updL (l ++ m) (l.length + i) r = _
    rw [updL_app l m i r]; rfl
theorem Reads.row (σ1 : List Res) (E : TypeId) {i : Nat} (hi : i < D.length) : Reads w0 (σ1 ++ rwO E D) φ (D.getD i dR).ad (i64s (D.getD i dR).L) := fun _ s =>
  ⟨_, own_cells (s.own (rwR E (D.getD i dR)) (List.mem_append_right _ (List.mem_map.2 ⟨_, rw_mem hi, rfl⟩)))⟩
theorem JL_storeRow {T : TypeId} {x y : Operand} {j : Nat} {a : Int} {ty : TypeId} {pos : String} {aft : Array Edge} (σ1 : List Res) (i : Nat) (hi : i < D.length) (hT : tyOf P T = some (false, 1)) (hx : Ev fr x (ptrAt (D.getD i dR).ad j)) (hy : Ev fr y (.int .i64 a)) (hj : j < (D.getD i dR).L.length)
    (k : JL P ops Q w0 (σ1 ++ rwO E (D.set i ⟨(D.getD i dR).ad, (D.getD i dR).cap, (D.getD i dR).L.set j a⟩)) φ lo fr) : JL P ops Q w0 (σ1 ++ rwO E D) φ (⟨none, .store T x y, ty, pos, aft, none⟩ :: lo) fr := by
  refine JL_storeI (σ1.length + i) hT hx hy (Nth_app σ1 (Nth_rwO hi)) hj ?_
  rw [updL_app]
  have e := updL_rwO (E := E) (D := D) (r := ⟨(D.getD i dR).ad, (D.getD i dR).cap, (D.getD i dR).L.set j a⟩) hi
  have e2 : rwR E ⟨(D.getD i dR).ad, (D.getD i dR).cap, (D.getD i dR).L.set j a⟩ = osl (D.getD i dR).ad (D.getD i dR).L.length (D.getD i dR).cap E 1 (i64s ((D.getD i dR).L.set j a)) := by
    show osl _ ((D.getD i dR).L.set j a).length _ _ _ _ = _
    rw [List.length_set]
  rw [← e2, e]; exact k
theorem rws_same {i : Nat} {r : Rw} (hi : i < D.length) (hr : r.v = (D.getD i dR).v) : rws (D.set i r) = rws D := by
  rw [← rws_set, hr]
  refine List.ext_getElem (by rw [setAll, setAll, updL_set, List.length_set]) fun a h1 h2 => ?_
  simp only [setAll, updL_set]
  rw [List.getElem_set]
  split
  · rename_i e
    subst e
    have := rws_get (l := D) hi
    rw [List.getElem?_eq_getElem (by rw [rws_length]; exact hi)] at this
    exact (Option.some.inj this).symm
  · rfl
theorem St.giveRows {w : World} (s : St w0 w (σ1 ++ rwO E D) φ) : St w0 w σ1 ((true, vRws D) :: φ) := by
  refine (s.dropRes (List.sublist_append_left _ _)).addView fun r hr => ?_
  have hm : rwR E r ∈ σ1 ++ rwO E D := List.mem_append_right _ (List.mem_map.2 ⟨r, hr, rfl⟩)
  refine (own_cells (s.own _ hm)).mono (fun _ _ _ => rfl) fun k _ hX e => ?_
  have hk : (rwR E r).key = some k := by
    cases hra : r.ad with
    | none => rw [hra] at e; cases e
    | some a => rw [hra] at e; show (Value.slice r.ad r.L.length r.cap).ownBlock = some k; rw [hra]; exact e
  rcases hX with ⟨q, hq, hqk⟩ | ⟨_, hY⟩
  · exact (List.pairwise_append.1 s.dist).2.2 q hq _ (List.mem_map.2 ⟨r, hr, rfl⟩) k hqk hk
  · have h1 := s.fresh _ hm k hk
    have h2 := w0.hY k hY
    omega
theorem JC_giveRows (h : JC P c Q w0 σ1 ((true, vRws D) :: φ) fr) : JC P c Q w0 (σ1 ++ rwO E D) φ fr := JC_conv (fun _ s => St.giveRows s) h
theorem JC_noRows (E : TypeId) (h : JC P c Q w0 (σ1 ++ rwO E []) φ fr) : JC P c Q w0 σ1 φ fr := by
  have e : σ1 ++ rwO E [] = σ1 := List.append_nil _
  rwa [e] at h
end
end Go.Fw.Cn
