/- The program logic's loops and meetings by overrides, and small helps. -/
import Derived.Test.YtmbgbodkhdfdoaaDoorFwE
namespace Go.Fw
open Go Go.RowKit

/-- The frame with some slots written anew, in one pass. -/
def mix {α : Type} : List α → List (Option α) → List α
  | [], _ => []
  | l, [] => l
  | v :: l, none :: m => v :: mix l m
  | _ :: l, some x :: m => x :: mix l m

section
variable {P : Program} {Q : Exit → Act → World → Prop} {w0 : Ctx} {σ σ' : List Res} {φ φ' : List (Bool × VP)} {fr fr' : Fr} {ops : Array Oper} {rest : List Oper}
  {d : Nat} {ty : TypeId} {pos : String} {aft : Array Edge}

theorem JC_norm {c : Code} (fr' : Fr) (σ' : List Res) (φ' : List (Bool × VP)) (h1 : fr' = fr) (h2 : σ' = σ) (h3 : φ' = φ) (h : JC P c Q w0 σ' φ' fr') : JC P c Q w0 σ φ fr := by
  subst h1 h2 h3; exact h
theorem JE_norm {e : Exit} (fr' : Fr) (σ' : List Res) (φ' : List (Bool × VP)) (h1 : fr' = fr) (h2 : σ' = σ) (h3 : φ' = φ) (h : JE Q e w0 σ' φ' fr') : JE Q e w0 σ φ fr := by
  subst h1 h2 h3; exact h
theorem JL_dropAt {l : List Oper} (i : Nat) (h : JL P ops Q w0 (σ.eraseIdx i) φ l fr) : JL P ops Q w0 σ φ l fr := JL_conv (fun _ s => s.dropRes (List.eraseIdx_sublist _ _)) h
theorem JC_dropAt {c : Code} (i : Nat) (h : JC P c Q w0 (σ.eraseIdx i) φ fr) : JC P c Q w0 σ φ fr := JC_conv (fun _ s => s.dropRes (List.eraseIdx_sublist _ _)) h
theorem JE_dropAt {e : Exit} (i : Nat) (h : JE Q e w0 (σ.eraseIdx i) φ fr) : JE Q e w0 σ φ fr := JE_conv (fun _ s => s.dropRes (List.eraseIdx_sublist _ _)) h

theorem JL_done_up {y : Code} (n : Nat) {b' : List Value} (σ' : List Res) (φ' : List (Bool × VP)) (hn : fr.n = n) (hl : Nat.ble n fr.base.length = true) (h1 : flatP fr.pend fr.base = b') (h2 : σ' = σ) (h3 : φ' = φ) (h : JC P y Q w0 σ' φ' ⟨n, [], b'⟩) : JL P ops (Then P y Q) w0 σ φ [] fr := by
  subst h2 h3
  intro w s
  rw [act_flat hn hl h1]
  exact JL_done h w s
theorem JL_nil_up (n : Nat) {b' : List Value} (σ' : List Res) (φ' : List (Bool × VP)) (hn : fr.n = n) (hl : Nat.ble n fr.base.length = true) (h1 : flatP fr.pend fr.base = b') (h2 : σ' = σ) (h3 : φ' = φ) (h : JE Q .normal w0 σ' φ' ⟨n, [], b'⟩) : JL P ops Q w0 σ φ [] fr := by
  subst h2 h3
  intro w s
  rw [act_flat hn hl h1]
  exact JL_nil h w s

/-- The frame with some slots written anew. -/
def mixF (fr : Fr) (ov : List (Option Value)) : Fr := ⟨fr.n, [], mix fr.base ov⟩
/-- A loop: ov gives what slots hold anew (u: slots of no interest), os what turns among the resources, fv the views besides. -/
def NextS {ι : Type} (w0 : Ctx) (σ : List Res) (φ : List (Bool × VP)) (fr : Fr) (C : ι → Prop) (μ : ι → Nat) (ov : (Nat → Value) → ι → List (Option Value)) (os : ι → List (Option Res)) (fv : ι → List (Bool × VP)) (n : Nat)
    (Q : Exit → Act → World → Prop) : Exit → Act → World → Prop :=
  Next w0 (fun i : (Nat → Value) × ι => C i.2) (fun i => μ i.2) (fun i => mix σ (os i.2)) (fun i => fv i.2 ++ φ) (fun i => mixF fr (ov i.1 i.2)) n Q
theorem JC_loopS {c : Code} (ι : Type) (C : ι → Prop) (μ : ι → Nat) (ov : (Nat → Value) → ι → List (Option Value)) (os : ι → List (Option Res)) (fv : ι → List (Bool × VP)) (i0 : ι)
    (hfr : mixF fr (ov (look fr) i0) = fr) (hC : C i0) (hσ : mix σ (os i0) = σ) (hφ : ∀ p ∈ fv i0, p ∈ φ)
    (round : ∀ u i, C i → JC P c (NextS w0 σ φ fr C μ ov os fv (μ i) Q) w0 (mix σ (os i)) (fv i ++ φ) (mixF fr (ov u i))) : JC P (.loop c) Q w0 σ φ fr :=
  JC_loop ((Nat → Value) × ι) (fun i => C i.2) (fun i => μ i.2) (fun i => mix σ (os i.2)) (fun i => fv i.2 ++ φ) (fun i => mixF fr (ov i.1 i.2)) (look fr, i0) hfr.symm hC
    (fun w s => by
      simp only [hσ]
      exact s.weaken fun p hp => by
        rcases List.mem_append.1 hp with hp | hp
        · exact hφ p hp
        · exact hp)
    (fun i hC => round i.1 i.2 hC)
theorem JE_nextS {ι : Type} {C : ι → Prop} {μ : ι → Nat} {ov : (Nat → Value) → ι → List (Option Value)} {os : ι → List (Option Res)} {fv : ι → List (Bool × VP)} {n : Nat} (i : ι)
    (hfr : mixF fr (ov (look fr') i) = fr') (hC : C i) (hμ : μ i < n) (hσ : mix σ (os i) = σ') (hφ : ∀ p ∈ fv i ++ φ, p ∈ φ') : JE (NextS w0 σ φ fr C μ ov os fv n Q) .normal w0 σ' φ' fr' :=
  JE_next (look fr', i) hfr.symm hC hμ fun w s => by
    show St w0 w (mix σ (os i)) (fv i ++ φ)
    rw [hσ]
    exact s.weaken hφ
theorem JE_nextS_exit {ι : Type} {C : ι → Prop} {μ : ι → Nat} {ov : (Nat → Value) → ι → List (Option Value)} {os : ι → List (Option Res)} {fv : ι → List (Bool × VP)} {n : Nat} {id : Nat}
    (h : JE Q (.exit id) w0 σ' φ' fr') : JE (NextS w0 σ φ fr C μ ov os fv n Q) (.exit id) w0 σ' φ' fr' := fun w st => h w st
theorem JE_nextS_ret {ι : Type} {C : ι → Prop} {μ : ι → Nat} {ov : (Nat → Value) → ι → List (Option Value)} {os : ι → List (Option Res)} {fv : ι → List (Bool × VP)} {n : Nat}
    (h : JE Q .ret w0 σ' φ' fr') : JE (NextS w0 σ φ fr C μ ov os fv n Q) .ret w0 σ' φ' fr' := fun w st => h w st

def MidS {ι : Type} (w0 : Ctx) (σ : List Res) (φ : List (Bool × VP)) (fr : Fr) (C : ι → Prop) (ov : (Nat → Value) → ι → List (Option Value)) (os : ι → List (Option Res)) (fv : ι → List (Bool × VP)) (Q : Exit → Act → World → Prop) : Exit → Act → World → Prop :=
  Mid w0 (fun i : (Nat → Value) × ι => C i.2) (fun i => mix σ (os i.2)) (fun i => fv i.2 ++ φ) (fun i => mixF fr (ov i.1 i.2)) Q
theorem JC_cutS {x y : Code} (ι : Type) (C : ι → Prop) (ov : (Nat → Value) → ι → List (Option Value)) (os : ι → List (Option Res)) (fv : ι → List (Bool × VP))
    (h1 : JC P x (MidS w0 σ φ fr C ov os fv Q) w0 σ φ fr) (h2 : ∀ u i, C i → JC P y Q w0 (mix σ (os i)) (fv i ++ φ) (mixF fr (ov u i))) : JC P (.seq x y) Q w0 σ φ fr :=
  JC_cut ((Nat → Value) × ι) (fun i => C i.2) (fun i => mix σ (os i.2)) (fun i => fv i.2 ++ φ) (fun i => mixF fr (ov i.1 i.2)) h1 (fun i hC => h2 i.1 i.2 hC)
theorem JE_midS {ι : Type} {C : ι → Prop} {ov : (Nat → Value) → ι → List (Option Value)} {os : ι → List (Option Res)} {fv : ι → List (Bool × VP)} (i : ι)
    (hfr : mixF fr (ov (look fr') i) = fr') (hC : C i) (hσ : mix σ (os i) = σ') (hφ : ∀ p ∈ fv i ++ φ, p ∈ φ') : JE (MidS w0 σ φ fr C ov os fv Q) .normal w0 σ' φ' fr' :=
  JE_mid (look fr', i) hfr.symm hC fun w s => by
    show St w0 w (mix σ (os i)) (fv i ++ φ)
    rw [hσ]
    exact s.weaken hφ
theorem JE_midS_exit {ι : Type} {C : ι → Prop} {ov : (Nat → Value) → ι → List (Option Value)} {os : ι → List (Option Res)} {fv : ι → List (Bool × VP)} {id : Nat}
    (h : JE Q (.exit id) w0 σ' φ' fr') : JE (MidS w0 σ φ fr C ov os fv Q) (.exit id) w0 σ' φ' fr' := fun w st => h w st
theorem JE_midS_ret {ι : Type} {C : ι → Prop} {ov : (Nat → Value) → ι → List (Option Value)} {os : ι → List (Option Res)} {fv : ι → List (Bool × VP)}
    (h : JE Q .ret w0 σ' φ' fr') : JE (MidS w0 σ φ fr C ov os fv Q) .ret w0 σ' φ' fr' := fun w st => h w st

/-- Views of the loop's state stand ahead of the old ones. -/
theorem subset_app {α : Type} {a b l : List α} (h1 : ∀ p ∈ a, p ∈ l) (h2 : ∀ p ∈ b, p ∈ l) : ∀ p ∈ a ++ b, p ∈ l := fun p hp => by
  rcases List.mem_append.1 hp with hp | hp
  · exact h1 p hp
  · exact h2 p hp
theorem subset_nil {α : Type} {l : List α} : ∀ p ∈ ([] : List α), p ∈ l := fun _ h => by cases h
theorem subset_cons {α : Type} {a : α} {b l : List α} (h1 : a ∈ l) (h2 : ∀ p ∈ b, p ∈ l) : ∀ p ∈ a :: b, p ∈ l := fun p hp => by
  rcases List.mem_cons.1 hp with rfl | hp
  · exact h1
  · exact h2 p hp
theorem subset_refl {α : Type} {l : List α} : ∀ p ∈ l, p ∈ l := fun _ h => h
theorem subset_tail {α : Type} {a : α} {b l : List α} (h : ∀ p ∈ b, p ∈ l) : ∀ p ∈ b, p ∈ a :: l := fun p hp => List.mem_cons_of_mem _ (h p hp)

/-! ### Slices with one cell an element -/
theorem JL_idx {t e : TypeId} {x y : Operand} {ad : Option Addr} {len cap by' : Nat} {z : List Value} {kk : IntKind} {a : Int} {xs : List Value} (k : Nat) (hs : slOf P t = some (e, 1, by', z)) (hx : Ev fr x (.slice ad len cap)) (hy : Ev fr y (.int kk a))
    (ha : a = (k : Int)) (hk : k < len) (hr : Reads w0 σ φ ad xs) (hlt : k < xs.length)
    (n : JL P ops Q w0 σ φ rest (upd fr d (ptrAt ad k))) : JL P ops Q w0 σ φ (⟨some d, .indexAddr t x y, ty, pos, aft, none⟩ :: rest) fr :=
  JL_indexAddr k hs hx hy ha hk hr (by omega) (by rw [Nat.mul_one]; exact n)
theorem JL_make1 {t e : TypeId} {by' : Nat} {z : Value} {x y : Operand} {k1 k2 : IntKind} {a b : Int} (n c : Nat) (hs : slOf P t = some (e, 1, by', [z])) (hx : Ev fr x (.int k1 a)) (hy : Ev fr y (.int k2 b))
    (ha : a = (n : Int)) (hb : b = (c : Int)) (hnc : n ≤ c) (hbytes : by' * c ≤ 281474976710656) (hmax : c ≤ 9223372036854775807)
    (k : ∀ g, JL P ops Q w0 (σ ++ [osl (some ⟨g, 0, none⟩) n c e 1 (List.replicate n z)]) φ rest (upd fr d (.slice (some ⟨g, 0, none⟩) n c))) :
    JL P ops Q w0 σ φ (⟨some d, .makeSlice t x y, ty, pos, aft, none⟩ :: rest) fr := by
  refine JL_make n c hs rfl hx hy ha hb hnc hbytes hmax fun g => ?_
  have : ((List.replicate n [z]).flatten) = List.replicate n z := by
    clear k ha hx
    induction n with
    | zero => rfl
    | succ n ih => rw [List.replicate_succ, List.flatten_cons, ih (by omega), List.replicate_succ]; rfl
  rw [this]
  exact k g
/-- '[]T{x}' -/
theorem JL_build1 {t e : TypeId} {by' : Nat} {z v : Value} {x : Operand} (hs : slOf P t = some (e, 1, by', [z])) (hx : Ev fr x v) (hc : v.cells = #[v])
    (k : ∀ g, JL P ops Q w0 (σ ++ [osl (some ⟨g, 0, none⟩) 1 1 e 1 [v]]) φ rest (upd fr d (.slice (some ⟨g, 0, none⟩) 1 1))) :
    JL P ops Q w0 σ φ (⟨some d, .buildSlice t 1 #[(0, x)], ty, pos, aft, none⟩ :: rest) fr := by
  refine JL_buildSlice (pv := [(0, v)]) (vs := [v]) hs ?_ (by decide) (by decide) rfl ?_ k
  · simp [hx.eq]
  · rw [show Array.range (1 * 1) = #[0] from rfl]
    simp [Instr.fill, hc]
theorem JL_build0 {t e : TypeId} {sz by' : Nat} {zs : List Value} (hs : slOf P t = some (e, sz, by', zs))
    (k : ∀ g, JL P ops Q w0 (σ ++ [osl (some ⟨g, 0, none⟩) 0 0 e sz []]) φ rest (upd fr d (.slice (some ⟨g, 0, none⟩) 0 0))) :
    JL P ops Q w0 σ φ (⟨some d, .buildSlice t 0 #[], ty, pos, aft, none⟩ :: rest) fr := by
  refine JL_buildSlice (pv := []) (vs := []) hs (by simp) (by simp) (by decide) (by simp) ?_ k
  simp [Instr.fill, Array.range_zero']
/-- append of one cell -/
theorem JL_append1 {t e : TypeId} {by' : Nat} {z v : Value} {x y : Operand} {ad ad2 : Option Addr} {n cap c : Nat} {xs : List Value} (i j : Nat) (hs : slOf P t = some (e, 1, by', [z]))
    (hx : Ev fr x (.slice ad n cap)) (hy : Ev fr y (.slice ad2 1 c)) (hσ : Nth σ i (osl ad n cap e 1 xs)) (hj : Nth σ j (osl ad2 1 c e 1 [v])) (h1 : v.oneCell' = true)
    (h63 : n + 1 ≤ 9223372036854775807) (hbytes : (n + 1) * by' ≤ 140737488355328)
    (k : ∀ ad' cap', n + 1 ≤ cap' ∧ cap' ≤ 9223372036854775807 → JL P ops Q w0 (updL σ i (osl ad' (n + 1) cap' e 1 (xs ++ [v]))) φ rest (upd fr d (.slice ad' (n + 1) cap'))) :
    JL P ops Q w0 σ φ (⟨some d, .call { callee := .builtin .append, args := #[x, y], argTypes := #[t, t] }, ty, pos, aft, none⟩ :: rest) fr :=
  JL_append i hs rfl (by decide) hx hy hσ rfl (Reads.own j hj) (AllOne.cons h1 AllOne.nil) h63 hbytes k

/-! ### Lists of numbers as cells -/
def u32s (L : List Nat) : List Value := L.map fun (n : Nat) => Value.int .u32 (n : Int)
def i64s (L : List Int) : List Value := L.map fun n => Value.int .i64 n
theorem u32s_length (L : List Nat) : (u32s L).length = L.length := by simp [u32s]
theorem i64s_length (L : List Int) : (i64s L).length = L.length := by simp [i64s]
theorem u32s_get {L : List Nat} {k : Nat} (h : k < L.length) : (u32s L)[k]? = some (.int .u32 (L.getD k 0 : Nat)) := by
  simp [u32s, List.getD_eq_getElem?_getD, h]
theorem i64s_get {L : List Int} {k : Nat} (h : k < L.length) : (i64s L)[k]? = some (.int .i64 (L.getD k 0)) := by
  simp [i64s, List.getD_eq_getElem?_getD, h]
theorem u32s_append (L M : List Nat) : u32s L ++ u32s M = u32s (L ++ M) := by simp [u32s]
theorem u32s_snoc (L : List Nat) (n : Nat) : u32s L ++ [.int .u32 (n : Int)] = u32s (L ++ [n]) := by simp [u32s]
theorem i64s_snoc (L : List Int) (n : Int) : i64s L ++ [.int .i64 n] = i64s (L ++ [n]) := by simp [i64s]
theorem u32s_nil : u32s [] = [] := rfl
theorem i64s_nil : i64s [] = [] := rfl
theorem u32s_one (L : List Nat) : AllOne (u32s L) := fun v hv => by
  obtain ⟨n, _, rfl⟩ := List.mem_map.1 hv; rfl
theorem i64s_one (L : List Int) : AllOne (i64s L) := fun v hv => by
  obtain ⟨n, _, rfl⟩ := List.mem_map.1 hv; rfl
theorem u32s_take (L : List Nat) (k : Nat) : (u32s L).take k = u32s (L.take k) := by simp [u32s, List.map_take]
theorem u32s_drop (L : List Nat) (k : Nat) : (u32s L).drop k = u32s (L.drop k) := by simp [u32s, List.map_drop]
theorem i64s_take (L : List Int) (k : Nat) : (i64s L).take k = i64s (L.take k) := by simp [i64s, List.map_take]
theorem i64s_drop (L : List Int) (k : Nat) : (i64s L).drop k = i64s (L.drop k) := by simp [i64s, List.map_drop]
theorem u32s_set (L : List Nat) (k n : Nat) : setAll (u32s L) k [.int .u32 (n : Int)] = u32s (L.set k n) := by simp [setAll, updL_set, u32s, List.map_set]
theorem i64s_set (L : List Int) (k : Nat) (n : Int) : setAll (i64s L) k [.int .i64 n] = i64s (L.set k n) := by simp [setAll, updL_set, i64s, List.map_set]
theorem u32s_replicate (k : Nat) : List.replicate k (Value.int .u32 0) = u32s (List.replicate k 0) := by simp [u32s]
theorem i64s_replicate (k : Nat) : List.replicate k (Value.int .i64 0) = i64s (List.replicate k 0) := by simp [i64s]
end
end Go.Fw
namespace Go.Fw
open Go Go.RowKit
section
variable {P : Program} {Q : Exit → Act → World → Prop} {w0 : Ctx} {σ σ' : List Res} {φ φ' : List (Bool × VP)} {fr fr' : Fr} {ops : Array Oper} {rest : List Oper}
  {d : Nat} {ty : TypeId} {pos : String} {aft : Array Edge}
theorem all_nil : ∀ p ∈ ([] : List VP), (true, p) ∈ φ := fun _ h => by cases h
theorem all_cons {a : VP} {b : List VP} (h1 : (true, a) ∈ φ) (h2 : ∀ p ∈ b, (true, p) ∈ φ) : ∀ p ∈ a :: b, (true, p) ∈ φ := fun p hp => by
  rcases List.mem_cons.1 hp with rfl | hp
  · exact h1
  · exact h2 p hp
/-- append of a limb, of an int -/
theorem JL_appendU {t e : TypeId} {by' : Nat} {z : Value} {x y : Operand} {ad ad2 : Option Addr} {m cap c : Nat} {L : List Nat} {a : Int} (i j : Nat) (n : Nat) (hs : slOf P t = some (e, 1, by', [z]))
    (hx : Ev fr x (.slice ad m cap)) (hy : Ev fr y (.slice ad2 1 c)) (hσ : Nth σ i (osl ad m cap e 1 (u32s L))) (hj : Nth σ j (osl ad2 1 c e 1 [.int .u32 a])) (hn : a = (n : Int))
    (h63 : m + 1 ≤ 9223372036854775807) (hbytes : (m + 1) * by' ≤ 140737488355328)
    (k : ∀ ad' cap', m + 1 ≤ cap' ∧ cap' ≤ 9223372036854775807 → JL P ops Q w0 (updL σ i (osl ad' (m + 1) cap' e 1 (u32s (L ++ [n])))) φ rest (upd fr d (.slice ad' (m + 1) cap'))) :
    JL P ops Q w0 σ φ (⟨some d, .call { callee := .builtin .append, args := #[x, y], argTypes := #[t, t] }, ty, pos, aft, none⟩ :: rest) fr := by
  subst hn
  refine JL_append1 i j hs hx hy hσ hj rfl h63 hbytes fun ad' cap' hc => ?_
  rw [u32s_snoc]
  exact k ad' cap' hc
theorem JL_appendI {t e : TypeId} {by' : Nat} {z : Value} {x y : Operand} {ad ad2 : Option Addr} {m cap c : Nat} {L : List Int} {a : Int} (i j : Nat) (hs : slOf P t = some (e, 1, by', [z]))
    (hx : Ev fr x (.slice ad m cap)) (hy : Ev fr y (.slice ad2 1 c)) (hσ : Nth σ i (osl ad m cap e 1 (i64s L))) (hj : Nth σ j (osl ad2 1 c e 1 [.int .i64 a]))
    (h63 : m + 1 ≤ 9223372036854775807) (hbytes : (m + 1) * by' ≤ 140737488355328)
    (k : ∀ ad' cap', m + 1 ≤ cap' ∧ cap' ≤ 9223372036854775807 → JL P ops Q w0 (updL σ i (osl ad' (m + 1) cap' e 1 (i64s (L ++ [a])))) φ rest (upd fr d (.slice ad' (m + 1) cap'))) :
    JL P ops Q w0 σ φ (⟨some d, .call { callee := .builtin .append, args := #[x, y], argTypes := #[t, t] }, ty, pos, aft, none⟩ :: rest) fr := by
  refine JL_append1 i j hs hx hy hσ hj rfl h63 hbytes fun ad' cap' hc => ?_
  rw [i64s_snoc]
  exact k ad' cap' hc
/-- An own slice of limbs is let go, cut. -/
theorem JL_give {l : List Oper} {ad : Option Addr} {n cap sz : Nat} {E : TypeId} {xs : List Value} (i : Nat) (hi : Nth σ i (osl ad n cap E sz xs)) (k : JL P ops Q w0 (σ.eraseIdx i) ((true, vCells ad xs) :: φ) l fr) : JL P ops Q w0 σ φ l fr := JL_conv (fun _ s => s.give i hi) k
theorem JC_give {c : Code} {ad : Option Addr} {n cap sz : Nat} {E : TypeId} {xs : List Value} (i : Nat) (hi : Nth σ i (osl ad n cap E sz xs)) (k : JC P c Q w0 (σ.eraseIdx i) ((true, vCells ad xs) :: φ) fr) : JC P c Q w0 σ φ fr := JC_conv (fun _ s => s.give i hi) k
theorem JE_give {e : Exit} {ad : Option Addr} {n cap sz : Nat} {E : TypeId} {xs : List Value} (i : Nat) (hi : Nth σ i (osl ad n cap E sz xs)) (k : JE Q e w0 (σ.eraseIdx i) ((true, vCells ad xs) :: φ) fr) : JE Q e w0 σ φ fr := JE_conv (fun _ s => s.give i hi) k
theorem JL_viewTake {l : List Oper} {f : Bool} {ad : Option Addr} {xs : List Value} (m : Nat) (h : (f, vCells ad xs) ∈ φ) (k : JL P ops Q w0 σ ((f, vCells ad (xs.take m)) :: φ) l fr) : JL P ops Q w0 σ φ l fr :=
  JL_addView (fun w s j u hj => by
    rw [List.getElem?_take] at hj
    split at hj
    · exact (show CellsAt _ _ _ _ from s.views _ h) j u hj
    · cases hj) k
theorem JE_viewTake {e : Exit} {f : Bool} {ad : Option Addr} {xs : List Value} (m : Nat) (h : (f, vCells ad xs) ∈ φ) (k : JE Q e w0 σ ((f, vCells ad (xs.take m)) :: φ) fr) : JE Q e w0 σ φ fr :=
  JE_addView (fun w s j u hj => by
    rw [List.getElem?_take] at hj
    split at hj
    · exact (show CellsAt _ _ _ _ from s.views _ h) j u hj
    · cases hj) k
end
end Go.Fw
