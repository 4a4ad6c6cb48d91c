/- The program logic's rules for operations that read and write memory. -/
import Derived.Test.YtgfldmhpindbpaaDoorFwB
namespace Go.Fw
open Go Go.RowKit

def NthL (cs : List Value) : Nat → List Value → Prop
  | _, [] => True
  | o, v :: l => Nth cs o v ∧ NthL cs (o + 1) l
def setAll : List Value → Nat → List Value → List Value
  | cs, _, [] => cs
  | cs, o, v :: l => setAll (updL cs o v) (o + 1) l
theorem NthL.get {cs : List Value} : ∀ {vs : List Value} {o : Nat}, NthL cs o vs → ∀ (j : Nat) (v : Value), vs[j]? = some v → cs[o + j]? = some v
  | [], _, _, j, v, hj => by simp at hj
  | u :: l, o, h, j, v, hj => by
    cases j with
    | zero => simp at hj; subst hj; exact h.1.get
    | succ j => have := NthL.get (vs := l) (o := o + 1) h.2 j v (by simpa using hj); rw [show o + (j + 1) = o + 1 + j from by omega]; exact this
theorem length_setAll : ∀ (vs cs : List Value) (o : Nat), (setAll cs o vs).length = cs.length
  | [], _, _ => rfl
  | v :: l, cs, o => by rw [setAll, length_setAll l, updL_set, List.length_set]
theorem setAll_get : ∀ (vs cs : List Value) (o j : Nat), o + vs.length ≤ cs.length →
    (setAll cs o vs)[j]? = if o ≤ j ∧ j < o + vs.length then vs[j - o]? else cs[j]?
  | [], cs, o, j, h => by rw [setAll, if_neg (by simp)]
  | v :: l, cs, o, j, h => by
    simp only [List.length_cons] at h
    rw [setAll, setAll_get l (updL cs o v) (o + 1) j (by rw [updL_set, List.length_set]; omega)]
    by_cases h1 : j = o
    · subst h1
      rw [if_neg (by omega), if_pos (by simp), updL_set, List.getElem?_set_self (by omega)]
      simp
    · by_cases h2 : o + 1 ≤ j ∧ j < o + 1 + l.length
      · rw [if_pos h2, if_pos (by simp; omega)]
        obtain ⟨m, rfl⟩ : ∃ m, j = o + 1 + m := ⟨j - (o + 1), by omega⟩
        rw [show o + 1 + m - (o + 1) = m from by omega, show o + 1 + m - o = m + 1 from by omega]
        simp
      · rw [if_neg h2, if_neg (by simp; omega), updL_set, List.getElem?_set_ne (by omega)]
theorem setAll_splice (vs cs : List Value) (o : Nat) (h : o + vs.length ≤ cs.length) : setAll cs o vs = cs.take o ++ vs ++ cs.drop (o + vs.length) := by
  apply List.ext_getElem?
  intro j
  rw [setAll_get vs cs o j h]
  rw [List.append_assoc, List.getElem?_append, List.length_take]
  have hmin : min o cs.length = o := by omega
  rw [hmin]
  by_cases h1 : j < o
  · rw [if_neg (by omega), if_pos h1, List.getElem?_take, if_pos h1]
  · rw [if_neg h1, List.getElem?_append]
    by_cases h2 : j < o + vs.length
    · rw [if_pos (by omega), if_pos (by omega)]
    · rw [if_neg (by omega), if_neg (by omega), List.getElem?_drop]
      congr 1
      omega

/-- The address of cell k behind ad. -/
def ptrAt (ad : Option Addr) (k : Nat) : Value := .pointer (ad.map fun a => a.add k)
theorem add_lit' (b o n : Nat) : Addr.add ⟨b, o, none⟩ n = ⟨b, o + n, none⟩ := Addr.add_lit b o n

section
variable {P : Program} {Q : Exit → Act → World → Prop} {w0 : Ctx} {σ σ' : List Res} {φ φ' : List (Bool × VP)} {fr : Fr} {ops : Array Oper} {rest : List Oper}
  {d : Nat} {ty : TypeId} {pos : String} {aft : Array Edge}

theorem below_alloc (w : World) (o : Obj) : Below w.heap.size w (w.alloc o) := (Below.refl _ _).alloc (Nat.le_refl _) o
theorem St.addBox {w : World} (s : St w0 w σ φ) (T : TypeId) (vs : List Value) : St w0 (w.alloc (.cells vs.toArray T (0, 0))) (σ ++ [box w.heap.size T vs]) φ :=
  s.addRes (box w.heap.size T vs) (below_alloc w _) (heap_alloc_new w _) (fun k hk => by simp [box] at hk; omega)
theorem JL_box {T : TypeId} {x : Operand} {v : Value} {vs : List Value} (hx : Ev fr x v) (hc : v.cells = vs.toArray)
    (k : ∀ b, JL P ops Q w0 (σ ++ [box b T vs]) φ rest (upd fr d (.pointer (some ⟨b, 0, none⟩)))) : JL P ops Q w0 σ φ (⟨some d, .box T x, ty, pos, aft, none⟩ :: rest) fr :=
  fun w s => wpList_run rfl rfl (v := .pointer (some ⟨w.heap.size, 0, none⟩)) (w' := w.alloc (.cells vs.toArray T (0, 0)))
    (by simp [execOp, hx.eq, Instr.box, newVar, newRow, hc]) (k w.heap.size _ (s.addBox T vs))
theorem JL_alloc {T : TypeId} {zs : List Value} (hz : zeroOf P T = some zs)
    (k : ∀ b, JL P ops Q w0 (σ ++ [box b T zs]) φ rest (upd fr d (.pointer (some ⟨b, 0, none⟩)))) : JL P ops Q w0 σ φ (⟨some d, .alloc T, ty, pos, aft, none⟩ :: rest) fr := by
  intro w s
  unfold zeroOf at hz
  cases hi : P.info? T with
  | none => simp [hi] at hz
  | some i =>
    cases hzv : i.zero with
    | none => simp [hi, hzv] at hz
    | some zv =>
      simp [hi, hzv] at hz
      refine wpList_run rfl rfl (v := .pointer (some ⟨w.heap.size, 0, none⟩)) (w' := w.alloc (.cells zs.toArray T (0, 0))) ?_ (k w.heap.size _ (s.addBox T zs))
      simp [execOp, Instr.alloc, newVar, newRow, zeroValue, typeInfo, hi, hzv, ← hz]

theorem run_loadVar_one {T : TypeId} {n : Nat} (hT : tyOf P T = some (false, n)) {w : World} {a : Addr} {v : Value} (hc : w.cell? a = some v) : (loadVar T a).run P w = .ok v w := by
  obtain ⟨ds, i, h1, h2, h3, h4⟩ := tyOf_spec hT
  simp [loadVar, run_isAgg h1, h3, hc]
theorem run_loadVar_agg {T : TypeId} {w : World} {a : Addr} {vs : List Value} (hT : tyOf P T = some (true, vs.length)) (hc : ∀ j v, vs[j]? = some v → w.cell? (a.add j) = some v) : (loadVar T a).run P w = .ok (.agg vs.toArray) w := by
  obtain ⟨ds, i, h1, h2, h3, h4⟩ := tyOf_spec hT
  simp only [loadVar, Sem.run_bind, run_isAgg h1, h3, Result.andThen_ok, if_true, sizeOf, typeInfo, run_program, h2, Sem.run_pure, h4, run_loadCells_list w a vs hc]
theorem cell_box {w : World} {b : Nat} {T : TypeId} {cs : List Value} (h : (box b T cs).holds w) (o : Nat) : w.cell? ⟨b, o, none⟩ = cs[o]? := by
  rw [cell_of_row w b o cs.toArray T (0, 0) h]; simp

theorem JL_load {T T' : TypeId} {x : Operand} {b o n : Nat} {cs : List Value} {v : Value} (i : Nat) (hT : tyOf P T = some (false, n)) (hx : Ev fr x (.pointer (some ⟨b, o, none⟩))) (hσ : Nth σ i (box b T' cs)) (hv : Nth cs o v)
    (k : JL P ops Q w0 σ φ rest (upd fr d v)) : JL P ops Q w0 σ φ (⟨some d, .load T x, ty, pos, aft, none⟩ :: rest) fr :=
  JL_pureSt v (fun w s => by
    have hc := (cell_box (s.own _ hσ.mem) o).trans hv.get
    simp [execOp, hx.eq, Instr.loadAt, Instr.sureAddr, run_loadVar_one hT hc]) k
theorem JL_loadA {T T' : TypeId} {x : Operand} {b o : Nat} {cs vs : List Value} (i : Nat) (hT : tyOf P T = some (true, vs.length)) (hx : Ev fr x (.pointer (some ⟨b, o, none⟩))) (hσ : Nth σ i (box b T' cs)) (hv : NthL cs o vs)
    (k : JL P ops Q w0 σ φ rest (upd fr d (.agg vs.toArray))) : JL P ops Q w0 σ φ (⟨some d, .load T x, ty, pos, aft, none⟩ :: rest) fr :=
  JL_pureSt _ (fun w s => by
    have hc : ∀ j u, vs[j]? = some u → w.cell? (Addr.add ⟨b, o, none⟩ j) = some u := fun j u hj => by
      rw [add_lit', cell_box (s.own _ hσ.mem) (o + j)]; exact hv.get j u hj
    simp [execOp, hx.eq, Instr.loadAt, Instr.sureAddr, run_loadVar_agg hT hc]) k

def AllOne (vs : List Value) : Prop := ∀ v ∈ vs, v.oneCell' = true
theorem AllOne.nil : AllOne [] := fun _ h => by cases h
theorem AllOne.cons {v : Value} {vs : List Value} (h : v.oneCell' = true) (h' : AllOne vs) : AllOne (v :: vs) := fun u hu => by
  rcases List.mem_cons.1 hu with rfl | hu
  · exact h
  · exact h' u hu
theorem run_storeVar_box {T T' : TypeId} {g : Bool} {b o : Nat} {cs vs : List Value} {v : Value} {w : World} (hT : tyOf P T = some (g, vs.length)) (hc : v.cells = vs.toArray) (h1 : AllOne vs) (hb : (box b T' cs).holds w) (hlen : o + vs.length ≤ cs.length) :
    (storeVar T ⟨b, o, none⟩ v).run P w = .ok () (w.setRow b (setAll cs o vs).toArray) := by
  obtain ⟨ds, i, hu, hi, h3, h4⟩ := tyOf_spec hT
  have hst := run_storeCells_at P b o T' vs 0 cs.toArray w hb (by simpa using hlen) h1
  simp only [Nat.add_zero] at hst
  rw [setAll_splice vs cs o hlen]
  simp [storeVar, sizeOf, typeInfo, hi, h4, hc, hst]
theorem St.setBox {w : World} (s : St w0 w σ φ) {i b : Nat} {T : TypeId} {cs : List Value} (cs' : List Value) (hσ : Nth σ i (box b T cs)) : St w0 (w.setRow b cs'.toArray) (updL σ i (box b T cs')) φ := by
  rw [updL_set]
  have hb : (box b T cs).holds w := s.own _ hσ.mem
  refine s.setRes i (box b T cs) (box b T cs') hσ.get (by simp [World.setRow]) rfl rfl rfl ?_ (setRow_heap w b _ _ _ _ hb) (fun k hk => .inl hk)
  intro k _ hne
  exact setRow_other w b k _ (fun e => hne (by simp [box, e]))
theorem JL_store {T T' : TypeId} {x y : Operand} {g : Bool} {b o : Nat} {cs vs : List Value} {v : Value} (i : Nat) (hT : tyOf P T = some (g, vs.length)) (hx : Ev fr x (.pointer (some ⟨b, o, none⟩))) (hy : Ev fr y v) (hc : v.cells = vs.toArray) (h1 : AllOne vs)
    (hσ : Nth σ i (box b T' cs)) (hlen : o + vs.length ≤ cs.length) (k : JL P ops Q w0 (updL σ i (box b T' (setAll cs o vs))) φ rest fr) : JL P ops Q w0 σ φ (⟨none, .store T x y, ty, pos, aft, none⟩ :: rest) fr :=
  fun w s => wpList_run0 rfl rfl (w' := w.setRow b (setAll cs o vs).toArray)
    (by simp [execOp, hx.eq, hy.eq, Instr.storeAt, Instr.sureAddr, run_storeVar_box hT hc h1 (s.own _ hσ.mem) hlen]) (k _ (s.setBox _ hσ))

theorem JL_fieldAddr {s : TypeId} {x : Operand} {f b o off : Nat} (hf : fOf P s f = some off) (hx : Ev fr x (.pointer (some ⟨b, o, none⟩)))
    (k : JL P ops Q w0 σ φ rest (upd fr d (.pointer (some ⟨b, o + off, none⟩)))) : JL P ops Q w0 σ φ (⟨some d, .fieldAddr s x f, ty, pos, aft, none⟩ :: rest) fr := by
  refine JL_pure _ (fun w => ?_) k
  unfold fOf at hf
  split at hf
  · rename_i fields hu
    split at hf
    · rename_i fd hfd
      split at hf
      · rename_i i hi
        split at hf
        · cases hf
        · rename_i hne
          simp at hf
          subst hf
          simp [execOp, hx.eq, Instr.fieldAt, run_underlying hu, hfd, Instr.sureAddr, fieldPlace, sizeOf, typeInfo, hi, hne, add_lit']
      · cases hf
    · cases hf
  · cases hf

/-! ### Elements of slices -/
theorem CellsAt.some {X : Nat → Prop} {w : World} {ad : Option Addr} {xs : List Value} {j : Nat} {u : Value} (h : CellsAt X w ad xs) (hj : xs[j]? = some u) :
    ∃ a, ad = some a ∧ w.cell? (a.add j) = some u := by
  obtain ⟨b, o, he, _, hc⟩ := h j u hj
  exact ⟨_, he, by rw [add_lit']; exact hc⟩
theorem own_cells {w : World} {ad : Option Addr} {n cap sz : Nat} {E : TypeId} {xs : List Value} (h : (osl ad n cap E sz xs).holds w) : CellsAt (fun k => ad.map (·.block) ≠ some k) w ad xs := by
  intro j u hj
  rcases h.2 with ⟨hv, hn⟩ | ⟨g, cap', cur, hv, _, hgg, _, _, _, htake⟩
  · have := h.1; rw [hn, Nat.zero_mul] at this; rw [List.eq_nil_of_length_eq_zero this] at hj; simp at hj
  · simp only [Value.slice.injEq] at hv
    obtain ⟨rfl, _, _⟩ := hv
    refine ⟨g, 0, rfl, by simp, ?_⟩
    rw [cell_of_row w g (0 + j) cur E (0, 0) hgg]
    rw [← htake, List.getElem?_take] at hj
    split at hj
    · simpa using hj
    · cases hj
/-- Where the elements of a slice lie: in a view, or in an own resource. -/
def Reads (w0 : Ctx) (σ : List Res) (φ : List (Bool × VP)) (ad : Option Addr) (xs : List Value) : Prop := ∀ w, St w0 w σ φ → ∃ X, CellsAt X w ad xs
theorem Reads.view {ad : Option Addr} {xs : List Value} {f : Bool} (h : (f, vCells ad xs) ∈ φ) : Reads w0 σ φ ad xs := fun _ s => ⟨_, s.views _ h⟩
theorem Reads.own {ad : Option Addr} {n cap sz : Nat} {E : TypeId} {xs : List Value} (i : Nat) (h : Nth σ i (osl ad n cap E sz xs)) : Reads w0 σ φ ad xs := fun _ s => ⟨_, own_cells (s.own _ h.mem)⟩

theorem JL_indexAddr {t e : TypeId} {x y : Operand} {ad : Option Addr} {len cap sz by' : Nat} {z : List Value} {kk : IntKind} {a : Int} {xs : List Value} (k : Nat) (hs : slOf P t = some (e, sz, by', z)) (hx : Ev fr x (.slice ad len cap)) (hy : Ev fr y (.int kk a))
    (ha : a = (k : Int)) (hk : k < len) (hr : Reads w0 σ φ ad xs) (hlt : k * sz < xs.length)
    (n : JL P ops Q w0 σ φ rest (upd fr d (ptrAt ad (k * sz)))) : JL P ops Q w0 σ φ (⟨some d, .indexAddr t x y, ty, pos, aft, none⟩ :: rest) fr := by
  refine JL_pureSt _ (fun w s => ?_) n
  obtain ⟨i, zv, hu, hi, h1, h2, h3, h4⟩ := slOf_spec hs
  obtain ⟨X, hc⟩ := hr w s
  obtain ⟨adr, rfl, _⟩ := hc.some (List.getElem?_eq_getElem hlt)
  subst ha
  simp [execOp, hx.eq, hy.eq, Instr.indexAt, run_underlying hu, asIntOf, sizeOf, typeInfo, hi, h1, hk, ptrAt]
theorem JL_loadE {T : TypeId} {x : Operand} {ad : Option Addr} {j n : Nat} {xs : List Value} {v : Value} (hT : tyOf P T = some (false, n)) (hx : Ev fr x (ptrAt ad j)) (hr : Reads w0 σ φ ad xs) (hv : xs[j]? = some v)
    (k : JL P ops Q w0 σ φ rest (upd fr d v)) : JL P ops Q w0 σ φ (⟨some d, .load T x, ty, pos, aft, none⟩ :: rest) fr := by
  refine JL_pureSt v (fun w s => ?_) k
  obtain ⟨X, hc⟩ := hr w s
  obtain ⟨a, rfl, hcell⟩ := hc.some hv
  have he : ev fr x = .pointer (some (a.add j)) := hx.eq
  simp [execOp, he, Instr.loadAt, Instr.sureAddr, run_loadVar_one hT hcell]
theorem JL_loadEA {T : TypeId} {x : Operand} {ad : Option Addr} {j : Nat} {xs vs : List Value} (hT : tyOf P T = some (true, vs.length)) (hne : 0 < vs.length) (hx : Ev fr x (ptrAt ad j)) (hr : Reads w0 σ φ ad xs) (hv : ∀ m v, vs[m]? = some v → xs[j + m]? = some v)
    (k : JL P ops Q w0 σ φ rest (upd fr d (.agg vs.toArray))) : JL P ops Q w0 σ φ (⟨some d, .load T x, ty, pos, aft, none⟩ :: rest) fr := by
  refine JL_pureSt _ (fun w s => ?_) k
  obtain ⟨X, hc⟩ := hr w s
  obtain ⟨b, o, rfl, _, _⟩ := hc (j + 0) _ (hv 0 _ (List.getElem?_eq_getElem hne))
  have he : ev fr x = .pointer (some ⟨b, o + j, none⟩) := by rw [hx.eq]; simp [ptrAt, add_lit']
  have hcs : ∀ m u, vs[m]? = some u → w.cell? (Addr.add ⟨b, o + j, none⟩ m) = some u := fun m u hm => by
    obtain ⟨b', o', he', _, hc'⟩ := hc (j + m) u (hv m u hm)
    simp at he'
    obtain ⟨rfl, rfl⟩ := he'
    rw [add_lit', Nat.add_assoc]; exact hc'
  simp [execOp, he, Instr.loadAt, Instr.sureAddr, run_loadVar_agg hT hcs]

/-- A store into an owned slice. -/
theorem own_stored {w : World} {ad : Option Addr} {n cap sz : Nat} {E : TypeId} {xs vs : List Value} {j : Nat} (h : (osl ad n cap E sz xs).holds w) (hj : j + vs.length ≤ xs.length) (hpos : 0 < xs.length) :
    ∃ g cur, ad = some ⟨g, 0, none⟩ ∧ w.heap[g]? = some (.cells cur.toArray E (0, 0)) ∧ j + vs.length ≤ cur.length ∧
      ∀ w', w'.heap[g]? = some (.cells (setAll cur j vs).toArray E (0, 0)) → (osl ad n cap E sz (setAll xs j vs)).holds w' := by
  rcases h.2 with ⟨hv, hn⟩ | ⟨g, cap', cur, hv, hb, hgg, hnc, hcm, hcs, htake⟩
  · have := h.1; rw [hn, Nat.zero_mul] at this; omega
  · have hv0 := hv
    simp only [Value.slice.injEq] at hv
    obtain ⟨rfl, _, hcap⟩ := hv
    have hlen := h.1
    have hle : xs.length ≤ cur.size := by rw [hlen, hcs]; exact Nat.mul_le_mul_right _ hnc
    refine ⟨g, cur.toList, rfl, by simpa using hgg, by simp; omega, fun w' hw' => ⟨by rw [length_setAll]; exact hlen, .inr ⟨g, cap', _, hv0, hb, hw', hnc, hcm, ?_, ?_⟩⟩⟩
    · simp [length_setAll, hcs]
    · have hx : ∀ m, m < n * sz → xs[m]? = cur.toList[m]? := fun m hm => by rw [← htake, List.getElem?_take, if_pos hm]
      apply List.ext_getElem?
      intro m
      rw [List.getElem?_take, setAll_get vs cur.toList j m (by simp; omega), setAll_get vs xs j m hj]
      by_cases hm : m < n * sz
      · rw [if_pos hm, hx m hm]
      · have h2 : ¬ (j ≤ m ∧ m < j + vs.length) := by omega
        rw [if_neg hm, if_neg h2, List.getElem?_eq_none (by omega)]
theorem JL_storeE {T E : TypeId} {x y : Operand} {g : Bool} {ad : Option Addr} {n cap sz j : Nat} {xs vs : List Value} {v : Value} (i : Nat) (hT : tyOf P T = some (g, vs.length)) (hne : 0 < vs.length) (hx : Ev fr x (ptrAt ad j)) (hy : Ev fr y v) (hc : v.cells = vs.toArray) (h1 : AllOne vs)
    (hσ : Nth σ i (osl ad n cap E sz xs)) (hj : j + vs.length ≤ xs.length) (k : JL P ops Q w0 (updL σ i (osl ad n cap E sz (setAll xs j vs))) φ rest fr) : JL P ops Q w0 σ φ (⟨none, .store T x y, ty, pos, aft, none⟩ :: rest) fr := by
  intro w s
  have hown := s.own _ hσ.mem
  obtain ⟨gb, cur, rfl, hgg, hlen, hback⟩ := own_stored (vs := vs) (j := j) hown hj (by omega)
  have he : ev fr x = .pointer (some ⟨gb, j, none⟩) := by rw [hx.eq]; simp [ptrAt, add_lit']
  have hrun := run_storeVar_box (P := P) (T := T) (T' := E) (b := gb) (o := j) (cs := cur) hT hc h1 (w := w) hgg hlen
  refine wpList_run0 rfl rfl (w' := w.setRow gb (setAll cur j vs).toArray) (by simp [execOp, he, hy.eq, Instr.storeAt, Instr.sureAddr, hrun]) (k _ ?_)
  rw [updL_set]
  refine s.setRes i _ _ hσ.get (by simp [World.setRow]) rfl rfl rfl ?_ (hback _ (setRow_heap w gb _ _ _ _ hgg)) (fun k hk => .inl hk)
  intro k _ hne'
  exact setRow_other w gb k _ (fun e => hne' (by simp [osl, Value.ownBlock, e]))
end
end Go.Fw

/-! The program logic's rules for slices that grow or are cut, for calls, and for the end of a function. -/
namespace Go.Fw
open Go Go.RowKit

def subAd (ad : Option Addr) (m l sz : Nat) : Option Addr := if m = l then ad else ad.map fun a => a.add (l * sz)
theorem subAd_zero (ad : Option Addr) (m sz : Nat) : subAd ad m 0 sz = ad := by
  unfold subAd
  split
  · rfl
  · cases ad <;> simp [Addr.add]
def OptIs (fr : Fr) (x : Option Operand) (n : Nat) (dflt : Nat) : Prop :=
  match x with
  | none => n = dflt
  | some y => ∃ k a, Ev fr y (.int k a) ∧ a = (n : Int)
theorem OptIs.none {fr : Fr} {n : Nat} : OptIs fr none n n := rfl
theorem OptIs.some {fr : Fr} {y : Operand} {n dflt : Nat} {k : IntKind} {a : Int} (h : Ev fr y (.int k a)) (ha : a = (n : Int)) : OptIs fr (some y) n dflt := ⟨k, a, h, ha⟩

section
variable {P : Program} {Q : Exit → Act → World → Prop} {w0 : Ctx} {σ σ' : List Res} {φ φ' : List (Bool × VP)} {fr : Fr} {ops : Array Oper} {rest : List Oper}
  {d : Nat} {ty : TypeId} {pos : String} {aft : Array Edge}

theorem run_sliceBound {k : IntKind} {n y : Nat} {code : BoundsCode} (h : n ≤ y) (w : World) : (Instr.sliceBound (.int k (n : Int)) y code).run P w = .ok n w := by
  have h' : ((n : Int) ≤ (y : Int)) := by omega
  simp [Instr.sliceBound, asIntOf, h]
theorem run_sliceAt {t e : TypeId} {sz by' : Nat} {z : List Value} {x : Operand} {lo hi mx : Option Operand} {ad : Option Addr} {len cap l h m : Nat} (hs : slOf P t = some (e, sz, by', z)) (hx : Ev fr x (.slice ad len cap))
    (hlo : OptIs fr lo l 0) (hhi : OptIs fr hi h len) (hmx : OptIs fr mx m cap) (hno : mx = none ∨ hi ≠ none) (h1 : l ≤ h) (h2 : h ≤ m) (h3 : m ≤ cap) (w : World) :
    (Instr.sliceAt t (ev fr x) (lo.map (ev fr)) (hi.map (ev fr)) (mx.map (ev fr))).run P w = .ok (.slice (subAd ad m l sz) (h - l) (m - l)) w := by
  obtain ⟨i, zv, hu, hi', s1, s2, s3, s4⟩ := slOf_spec hs
  have hb : (Instr.sliceBounds true len cap (lo.map (ev fr)) (hi.map (ev fr)) (mx.map (ev fr))).run P w = .ok (l, h, m) w := by
    cases lo with
    | none =>
      simp only [OptIs] at hlo
      subst hlo
      cases mx with
      | none =>
        simp only [OptIs] at hmx
        subst hmx
        cases hi with
        | none =>
          simp only [OptIs] at hhi
          subst hhi
          simp only [Instr.sliceBounds, Option.map_none, Sem.run_bind, Sem.run_pure, Result.andThen_ok]
        | some y =>
          obtain ⟨k, a, hy, rfl⟩ := hhi
          simp only [Instr.sliceBounds, Option.map_none, Option.map_some, hy.eq, Sem.run_bind, Sem.run_pure, Result.andThen_ok, run_sliceBound h2]
      | some y =>
        obtain ⟨k, a, hy, rfl⟩ := hmx
        cases hi with
        | none => simp at hno
        | some y' =>
          obtain ⟨k', a', hy', rfl⟩ := hhi
          simp only [Instr.sliceBounds, Option.map_none, Option.map_some, hy.eq, hy'.eq, Sem.run_bind, Sem.run_pure, Result.andThen_ok, run_sliceBound h2, run_sliceBound h3]
    | some yl =>
      obtain ⟨kl, al, hyl, rfl⟩ := hlo
      cases mx with
      | none =>
        simp only [OptIs] at hmx
        subst hmx
        cases hi with
        | none =>
          simp only [OptIs] at hhi
          subst hhi
          simp only [Instr.sliceBounds, Option.map_none, Option.map_some, hyl.eq, Sem.run_bind, Sem.run_pure, Result.andThen_ok, run_sliceBound h1]
        | some y =>
          obtain ⟨k, a, hy, rfl⟩ := hhi
          simp only [Instr.sliceBounds, Option.map_none, Option.map_some, hyl.eq, hy.eq, Sem.run_bind, Sem.run_pure, Result.andThen_ok, run_sliceBound h1, run_sliceBound h2]
      | some y =>
        obtain ⟨k, a, hy, rfl⟩ := hmx
        cases hi with
        | none => simp at hno
        | some y' =>
          obtain ⟨k', a', hy', rfl⟩ := hhi
          simp only [Instr.sliceBounds, Option.map_some, hyl.eq, hy.eq, hy'.eq, Sem.run_bind, Sem.run_pure, Result.andThen_ok, run_sliceBound h1, run_sliceBound h2, run_sliceBound h3]
  rw [hx.eq]
  simp only [Instr.sliceAt, Sem.run_bind, run_underlying hu, Result.andThen_ok, Instr.slice, hb, sizeOf, typeInfo, run_program, hi', Sem.run_pure, s1, subAd]
theorem JL_slice {t e : TypeId} {sz by' : Nat} {z : List Value} {x : Operand} {lo hi mx : Option Operand} {ad : Option Addr} {len cap : Nat} (l h m : Nat) (hs : slOf P t = some (e, sz, by', z)) (hx : Ev fr x (.slice ad len cap))
    (hlo : OptIs fr lo l 0) (hhi : OptIs fr hi h len) (hmx : OptIs fr mx m cap) (hno : mx = none ∨ hi ≠ none) (h1 : l ≤ h) (h2 : h ≤ m) (h3 : m ≤ cap)
    (k : JL P ops Q w0 σ φ rest (upd fr d (.slice (subAd ad m l sz) (h - l) (m - l)))) : JL P ops Q w0 σ φ (⟨some d, .slice t x lo hi mx, ty, pos, aft, none⟩ :: rest) fr :=
  JL_pure _ (fun w => by
    simp only [execOp, Sem.run_bind, run_sliceAt hs hx hlo hhi hmx hno h1 h2 h3 w, Result.andThen_ok, Sem.run_pure]) k
/-- 's[:h]' -/
theorem JL_sliceTo {t e : TypeId} {sz by' : Nat} {z : List Value} {x y : Operand} {ad : Option Addr} {len cap : Nat} {kk : IntKind} {a : Int} (h : Nat) (hs : slOf P t = some (e, sz, by', z)) (hx : Ev fr x (.slice ad len cap))
    (hy : Ev fr y (.int kk a)) (ha : a = (h : Int)) (h2 : h ≤ cap)
    (k : JL P ops Q w0 σ φ rest (upd fr d (.slice ad h cap))) : JL P ops Q w0 σ φ (⟨some d, .slice t x none (some y) none, ty, pos, aft, none⟩ :: rest) fr := by
  refine JL_slice 0 h cap hs hx .none (.some hy ha) .none (.inl rfl) (Nat.zero_le _) h2 (Nat.le_refl _) ?_
  rw [subAd_zero]; exact k

/-! ### Views and own resources behind a cut, a gift -/
theorem CellsAt.sub {X : Nat → Prop} {w : World} {ad : Option Addr} {xs : List Value} (h : CellsAt X w ad xs) (m l hh sz : Nat) (hm : hh ≤ m) : CellsAt X w (subAd ad m l sz) ((xs.take (hh * sz)).drop (l * sz)) := by
  intro j u hj
  rw [List.getElem?_drop, List.getElem?_take] at hj
  split at hj
  · rename_i hlt
    obtain ⟨b, o, rfl, hX, hc⟩ := h _ _ hj
    have hne : m ≠ l := by
      rintro rfl
      have : hh * sz ≤ m * sz := Nat.mul_le_mul_right _ hm
      omega
    refine ⟨b, o + l * sz, ?_, hX, ?_⟩
    · simp [subAd, hne, add_lit']
    · rw [Nat.add_assoc]; exact hc
  · cases hj
theorem JC_addView {c : Code} {p : VP} {f : Bool} (h : ∀ w, St w0 w σ φ → p.holds (Xof w0 σ f) w) (k : JC P c Q w0 σ ((f, p) :: φ) fr) : JC P c Q w0 σ φ fr := JC_conv (fun w s => s.addView (h w s)) k
theorem JL_addView {l : List Oper} {p : VP} {f : Bool} (h : ∀ w, St w0 w σ φ → p.holds (Xof w0 σ f) w) (k : JL P ops Q w0 σ ((f, p) :: φ) l fr) : JL P ops Q w0 σ φ l fr := JL_conv (fun w s => s.addView (h w s)) k
theorem JE_addView {e : Exit} {p : VP} {f : Bool} (h : ∀ w, St w0 w σ φ → p.holds (Xof w0 σ f) w) (k : JE Q e w0 σ ((f, p) :: φ) fr) : JE Q e w0 σ φ fr := JE_conv (fun w s => s.addView (h w s)) k
theorem St.sub {w : World} (s : St w0 w σ φ) {f : Bool} {ad : Option Addr} {xs : List Value} (h : (f, vCells ad xs) ∈ φ) (m l hh sz : Nat) (hm : hh ≤ m) :
    (vCells (subAd ad m l sz) ((xs.take (hh * sz)).drop (l * sz))).holds (Xof w0 σ f) w := CellsAt.sub (s.views _ h) m l hh sz hm

/-- Own resource i is let go: from now on it is immutable data, in fresh memory. -/
theorem St.give {w : World} {ad : Option Addr} {n cap sz : Nat} {E : TypeId} {xs : List Value} (s : St w0 w σ φ) (i : Nat) (hi : Nth σ i (osl ad n cap E sz xs)) : St w0 w (σ.eraseIdx i) ((true, vCells ad xs) :: φ) := by
  have hilt : i < σ.length := (List.getElem?_eq_some_iff.1 hi.get).1
  have hget : σ[i] = osl ad n cap E sz xs := by have := hi.get; rw [List.getElem?_eq_getElem hilt] at this; simpa using this
  refine (s.dropRes (List.eraseIdx_sublist _ _)).addView ?_
  intro j u hj
  obtain ⟨b, o, rfl, _, hc⟩ := own_cells (s.own _ hi.mem) j u hj
  refine ⟨b, o, rfl, ?_, hc⟩
  have hkey : (osl (some ⟨b, o, none⟩) n cap E sz xs).key = some b := rfl
  rintro (⟨r, hr, hrk⟩ | ⟨_, hlt⟩)
  · obtain ⟨m, hm, rfl⟩ := List.mem_iff_getElem.1 hr
    have hd := List.pairwise_iff_getElem.1 s.dist
    rw [List.getElem_eraseIdx] at hrk
    have hlen : (σ.eraseIdx i).length = σ.length - 1 := List.length_eraseIdx_of_lt hilt
    split at hrk
    · rename_i hmi
      exact hd m i (by omega) hilt hmi b hrk (by rw [hget]; exact hkey)
    · rename_i hmi
      exact hd i (m + 1) hilt (by omega) (by omega) b (by rw [hget]; exact hkey) hrk
  · have := s.fresh _ hi.mem b hkey
    have := w0.hY b hlt
    omega
/-- An owned slice cut short. -/
theorem own_short {w : World} {ad : Option Addr} {n cap sz : Nat} {E : TypeId} {xs : List Value} (h : (osl ad n cap E sz xs).holds w) (m : Nat) (hm : m ≤ n) : (osl ad m cap E sz (xs.take (m * sz))).holds w := by
  have hmn : m * sz ≤ n * sz := Nat.mul_le_mul_right _ hm
  refine ⟨by rw [List.length_take, h.1]; omega, ?_⟩
  rcases h.2 with ⟨hv, hn⟩ | ⟨g, cap', cur, hv, hb, hgg, hnc, hcm, hcs, htake⟩
  · simp only [Value.slice.injEq] at hv
    obtain ⟨rfl, rfl, rfl⟩ := hv
    obtain rfl : m = 0 := by omega
    exact .inl ⟨rfl, rfl⟩
  · simp only [Value.slice.injEq] at hv
    obtain ⟨rfl, _, rfl⟩ := hv
    refine .inr ⟨g, cap, cur, rfl, hb, hgg, by omega, hcm, hcs, ?_⟩
    rw [← htake, List.take_take]
    congr 1
    omega
theorem St.short {w : World} {ad : Option Addr} {n cap sz : Nat} {E : TypeId} {xs : List Value} (s : St w0 w σ φ) (i m : Nat) (hi : Nth σ i (osl ad n cap E sz xs)) (hm : m ≤ n) : St w0 w (updL σ i (osl ad m cap E sz (xs.take (m * sz)))) φ := by
  rw [updL_set]
  exact s.setRes i _ _ hi.get (Nat.le_refl _) rfl rfl rfl (fun _ _ _ => rfl) (own_short (s.own _ hi.mem) m hm) (fun k hk => .inl (by cases ad with | none => (simp [osl, Value.ownBlock] at hk) | some a => exact hk))

theorem JL_len {t e rt : TypeId} {sz by' : Nat} {z : List Value} {x : Operand} {ad : Option Addr} {len cap : Nat} (hs : slOf P t = some (e, sz, by', z)) (hx : Ev fr x (.slice ad len cap))
    (k : JL P ops Q w0 σ φ rest (upd fr d (.int .i64 len))) : JL P ops Q w0 σ φ (⟨some d, .call { callee := .builtin .len, args := #[x], argTypes := #[t] }, rt, pos, aft, none⟩ :: rest) fr :=
  JL_pure _ (fun w => by
    obtain ⟨i, zv, hu, _⟩ := slOf_spec hs
    simp [execOp, resolve, invoke, builtin, hx.eq, Builtin.len_, run_underlying hu, goInt]) k
theorem JL_lenS {t rt : TypeId} {x : Operand} {s : ByteArray} (hs : P.underlying t = some .string) (hx : Ev fr x (.string s))
    (k : JL P ops Q w0 σ φ rest (upd fr d (.int .i64 s.size))) : JL P ops Q w0 σ φ (⟨some d, .call { callee := .builtin .len, args := #[x], argTypes := #[t] }, rt, pos, aft, none⟩ :: rest) fr :=
  JL_pure _ (fun w => by
    simp [execOp, resolve, invoke, builtin, hx.eq, Builtin.len_, run_underlying hs, goInt]) k
theorem JL_min {ts : Array TypeId} {rt : TypeId} {x y : Operand} {kk k' : IntKind} {a b : Int} (hx : Ev fr x (.int kk a)) (hy : Ev fr y (.int k' b))
    (k : JL P ops Q w0 σ φ rest (upd fr d (.int kk (if b < a then b else a)))) : JL P ops Q w0 σ φ (⟨some d, .call { callee := .builtin .min, args := #[x, y], argTypes := ts }, rt, pos, aft, none⟩ :: rest) fr :=
  JL_pure _ (fun w => by
    simp [execOp, resolve, invoke, builtin, hx.eq, hy.eq, Builtin.min_, Builtin.min2]) k
theorem JL_max {ts : Array TypeId} {rt : TypeId} {x y : Operand} {kk k' : IntKind} {a b : Int} (hx : Ev fr x (.int kk a)) (hy : Ev fr y (.int k' b))
    (k : JL P ops Q w0 σ φ rest (upd fr d (.int kk (if a < b then b else a)))) : JL P ops Q w0 σ φ (⟨some d, .call { callee := .builtin .max, args := #[x, y], argTypes := ts }, rt, pos, aft, none⟩ :: rest) fr :=
  JL_pure _ (fun w => by
    simp [execOp, resolve, invoke, builtin, hx.eq, hy.eq, Builtin.max_, Builtin.max2]) k
theorem JL_extract {x : Operand} {vs : Array Value} {i : Nat} {v : Value} (hx : Ev fr x (.tuple vs)) (hi : vs[i]? = some v)
    (k : JL P ops Q w0 σ φ rest (upd fr d v)) : JL P ops Q w0 σ φ (⟨some d, .extract x i, ty, pos, aft, none⟩ :: rest) fr :=
  JL_pure _ (fun w => by simp [execOp, hx.eq, Instr.extract, hi]) k
theorem JL_field {t : TypeId} {x : Operand} {f off n : Nat} {vs : List Value} {v : Value} (hf : fOf P t f = some off) (hT : ∀ fields fd, P.underlying t = some (.struct fields) → fields[f]? = some fd → tyOf P fd.type = some (false, n)) (hx : Ev fr x (.agg vs.toArray)) (hv : Nth vs off v)
    (k : JL P ops Q w0 σ φ rest (upd fr d v)) : JL P ops Q w0 σ φ (⟨some d, .field t x f, ty, pos, aft, none⟩ :: rest) fr := by
  refine JL_pure _ (fun w => ?_) k
  unfold fOf at hf
  split at hf
  · rename_i fields hu
    split at hf
    · rename_i fd hfd
      obtain ⟨ds, i, h1, h2, h3, h4⟩ := tyOf_spec (hT fields fd hu hfd)
      split at hf
      · split at hf
        · cases hf
        · simp at hf
          subst hf
          have hg := hv.get
          simp [execOp, hx.eq, Instr.field, run_underlying hu, hfd, asAgg, part, run_isAgg h1, h3, hg]
      · cases hf
    · cases hf
  · cases hf

/-! ### make, literals, append -/
theorem JL_make {t e : TypeId} {sz by' : Nat} {zs : List Value} {x y : Operand} {k1 k2 : IntKind} {a b : Int} (n c : Nat) (hs : slOf P t = some (e, sz, by', zs)) (hz : zs.length = sz) (hx : Ev fr x (.int k1 a)) (hy : Ev fr y (.int k2 b))
    (ha : a = (n : Int)) (hb : b = (c : Int)) (hnc : n ≤ c) (hbytes : by' * c ≤ 281474976710656) (hmax : c ≤ 9223372036854775807)
    (k : ∀ g, JL P ops Q w0 (σ ++ [osl (some ⟨g, 0, none⟩) n c e sz ((List.replicate n zs).flatten)]) φ rest (upd fr d (.slice (some ⟨g, 0, none⟩) n c))) :
    JL P ops Q w0 σ φ (⟨some d, .makeSlice t x y, ty, pos, aft, none⟩ :: rest) fr := by
  intro w s
  obtain ⟨i, zv, hu, hi, h1, h2, h3, h4⟩ := slOf_spec hs
  subst ha hb
  have hb2 : (i.bytes : Int) * (c : Int) ≤ 281474976710656 := by
    rw [h2]
    have h : ((by' * c : Nat) : Int) ≤ 281474976710656 := by omega
    rwa [Int.natCast_mul] at h
  have hr := run_make (P := P) w t e i zv hu hi h3 k1 k2 (n : Int) (c : Int) (by omega) (by omega) hb2 (by omega)
  simp only [Int.toNat_natCast, h1] at hr
  refine wpList_run rfl rfl (v := .slice (some ⟨w.heap.size, 0, none⟩) n c) (w' := w.alloc (.cells (madeCells zv.cells (c * sz)) e)) ?_ (k w.heap.size _ ?_)
  · simp [execOp, hx.eq, hy.eq, hr]
  · refine s.addRes _ (below_alloc w _) ?_ (fun k hk => by simp [osl, Value.ownBlock] at hk; omega)
    refine ⟨?_, .inr ⟨w.heap.size, c, _, rfl, Nat.zero_le _, heap_alloc_new w _, hnc, by simpa [maxLen] using hmax, size_madeCells _ _, ?_⟩⟩
    · simp [List.length_flatten, hz, List.sum_replicate_nat]
    · have hzl : zv.cells.size = sz := by rw [← hz, ← h4]; simp
      apply List.ext_getElem?
      intro j
      rw [List.getElem?_take]
      by_cases hj : j < n * sz
      · rw [if_pos hj]
        have hjc : j < c * sz := Nat.lt_of_lt_of_le hj (Nat.mul_le_mul_right _ hnc)
        have hsz : 0 < sz := by
          rcases Nat.eq_zero_or_pos sz with h | h
          · subst h; simp at hj
          · exact h
        have hmod : j % sz < sz := Nat.mod_lt _ hsz
        have e1 : (madeCells zv.cells (c * sz)).toList[j]? = some (zs[j % sz]'(by omega)) := by
          have hsome : zs[j % sz]'(by omega) = zv.cells[j % sz]'(by omega) := by
            simp only [← h4]; simp
          rw [hsome]
          simp [madeCells, hjc, hzl, getElem!_pos, hmod]
        rw [e1]
        have e2 : ∀ (n j : Nat), j < n * sz → ((List.replicate n zs).flatten)[j]? = zs[j % sz]? := by
          intro n
          induction n with
          | zero => intro j h; simp at h
          | succ n ih =>
            intro j h
            rw [List.replicate_succ, List.flatten_cons, List.getElem?_append, hz]
            split
            · rename_i hlt; rw [Nat.mod_eq_of_lt hlt]
            · rename_i hlt
              rw [ih (j - sz) (by rw [Nat.succ_mul] at h; omega)]
              congr 1
              exact (Nat.mod_eq_sub_mod (by omega)).symm
        rw [e2 n j hj, List.getElem?_eq_getElem (by omega)]
      · rw [if_neg hj, List.getElem?_eq_none]
        simp [List.length_flatten, hz, List.sum_replicate_nat]; omega

theorem JL_buildSlice {t e : TypeId} {sz by' len : Nat} {zs vs : List Value} {parts : Array (Nat × Operand)} {pv : List (Nat × Value)} (hs : slOf P t = some (e, sz, by', zs)) (hp : (parts.map fun (i, x) => (i, ev fr x)).toList = pv) (hsmall : len * sz ≤ 2 ^ 24) (hlm : len ≤ 16777216) (hlen : vs.length = len * sz)
    (hfill : Instr.fill (fun i => some (i * sz, sz)) ((Array.range (len * sz)).map (zs.toArray[· % zs.toArray.size]!)) pv = some vs.toArray)
    (k : ∀ g, JL P ops Q w0 (σ ++ [osl (some ⟨g, 0, none⟩) len len e sz vs]) φ rest (upd fr d (.slice (some ⟨g, 0, none⟩) len len))) :
    JL P ops Q w0 σ φ (⟨some d, .buildSlice t len parts, ty, pos, aft, none⟩ :: rest) fr := by
  intro w s
  obtain ⟨i, zv, hu, hi, h1, h2, h3, h4⟩ := slOf_spec hs
  have hzz : zv.cells = zs.toArray := by rw [← h4]
  refine wpList_run rfl rfl (v := .slice (some ⟨w.heap.size, 0, none⟩) len len) (w' := w.alloc (.cells vs.toArray e)) ?_ (k w.heap.size _ ?_)
  · have hns : ¬ (len * sz > 2 ^ 24) := by omega
    have hb : (Instr.buildSlice t len (parts.map fun (i, x) => (i, ev fr x))).run P w = .ok (.slice (some ⟨w.heap.size, 0, none⟩) len len) (w.alloc (.cells vs.toArray e)) := by
      generalize (parts.map fun (i, x) => (i, ev fr x)) = q at hp
      by_cases h0 : len * sz = 0
      · rw [h0, Array.range_zero', Array.map_empty] at hfill
        simp [Instr.buildSlice, run_underlying hu, sizeOf, typeInfo, hi, h1, h0, hp, hfill, newRow, Array.range_zero']
      · simp [Instr.buildSlice, run_underlying hu, sizeOf, typeInfo, hi, h1, h0, if_neg hns, zeroValue, h3, hzz, hp, newRow] at hfill ⊢
        simp [hfill]
    simp only [execOp, Sem.run_bind, hb, Result.andThen_ok, Sem.run_pure]
  · refine s.addRes _ (below_alloc w _) ?_ (fun k hk => by simp [osl, Value.ownBlock] at hk; omega)
    refine ⟨hlen, .inr ⟨w.heap.size, len, _, rfl, Nat.zero_le _, heap_alloc_new w _, Nat.le_refl _, ?_, by simp [hlen], ?_⟩⟩
    · simp only [maxLen]; omega
    · simp [← hlen]
end
end Go.Fw
