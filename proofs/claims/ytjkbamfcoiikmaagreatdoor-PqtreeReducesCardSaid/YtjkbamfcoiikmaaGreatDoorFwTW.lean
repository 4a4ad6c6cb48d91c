/- The program logic: pairs compared, own slices read and cleared through a cut, a slice grown from nothing. -/
import Derived.Test.YtjkbamfcoiikmaaGreatDoorFwQS
import Derived.Test.YtjkbamfcoiikmaaGreatDoorCcAB
import Derived.Lib.AppendZeros
import Derived.Laws.CopyRow
import Derived.Laws.StructEq
import Derived.Laws.BitsAllLaws
import Derived.Laws.BitsLemmas
namespace Go.Fw
open Go Go.RowKit

section
variable {P : Program} {Q : Exit → Act → World → Prop} {w0 : Ctx} {σ : List Res} {φ : List (Bool × VP)} {fr : Fr} {ops : Array Oper} {rest : List Oper}
  {d : Nat} {ty : TypeId} {pos : String} {aft : Array Edge}
/-- Reading through a cut. -/
theorem Reads.sub {ad : Option Addr} {xs : List Value} (h : Reads w0 σ φ ad xs) (m l sz : Nat) (hx : xs.length ≤ m * sz) : Reads w0 σ φ (subAd ad m l sz) (xs.drop (l * sz)) := by
  intro w s
  obtain ⟨X, hc⟩ := h w s
  refine ⟨X, fun j u hj => ?_⟩
  rw [List.getElem?_drop] at hj
  obtain ⟨b, o, he, hX, hcell⟩ := hc (l * sz + j) u hj
  have hlt := (List.getElem?_eq_some_iff.1 hj).1
  subst he
  unfold subAd
  split
  · rename_i e; subst e; omega
  · refine ⟨b, o + l * sz, by simp [Addr.add], hX, ?_⟩
    rw [Nat.add_assoc]; exact hcell
theorem wpList_runV {o : Oper} {w w' : World} {v : Value} (hg : o.guard = none) (hd : o.dst = none) (hrun : (execOp (ev fr) o).run P w = .ok (.value v) w')
    (k : wpList P ops Q rest (act fr) w') : wpList P ops Q (o :: rest) (act fr) w := by
  refine wpList_plain hg fun K hK => ?_
  unfold Oper.wp
  rw [act_eval_fun, hrun]
  show K ((act fr).put o.dst v) w'
  rw [hd]
  exact hK _ _ k
theorem zeroCells_one {zs : Array Value} {n : Nat} (h : ∀ v ∈ zs, v.oneCell' = true) : ∀ v ∈ (Builtin.zeroCells zs n).toList, v.oneCell' = true := by
  intro v hv
  unfold Builtin.zeroCells at hv
  rw [Array.toList_map] at hv
  obtain ⟨i, hi, rfl⟩ := List.mem_map.1 hv
  have hi' : i < n * zs.size := by simpa using hi
  have h0 : 0 < zs.size := Nat.pos_of_ne_zero fun e => by rw [e] at hi'; omega
  have hlt : i % zs.size < zs.size := Nat.mod_lt _ h0
  rw [getElem!_pos zs _ hlt]
  exact h _ (Array.getElem_mem hlt)
/-- 'clear(s[k:])': what stood ahead stays. -/
theorem JL_clear {t e : TypeId} {sz by' : Nat} {zs : List Value} {x : Operand} {ad : Option Addr} {n cap k : Nat} {xs : List Value} (i : Nat) (hs : slOf P t = some (e, sz, by', zs)) (hz : zs.length = sz) (h1 : AllOne zs)
    (hx : Ev fr x (.slice (subAd ad cap k sz) (n - k) (cap - k))) (hσ : Nth σ i (osl ad n cap e sz xs)) (hk : k < n)
    (n' : JL P ops Q w0 (updL σ i (osl ad k cap e sz (xs.take (k * sz)))) φ rest fr) :
    JL P ops Q w0 σ φ (⟨none, .call { callee := .builtin .clear, args := #[x], argTypes := #[t] }, ty, pos, aft, none⟩ :: rest) fr := by
  intro w s
  obtain ⟨ti, zv, hu, hi, h2, h3, h4, h5⟩ := slOf_spec hs
  have hown := s.own _ hσ.mem
  obtain ⟨hxl, hown2⟩ := id hown
  rcases hown2 with ⟨hv, hn0⟩ | ⟨g, cap', cur, hv, hb, hgg, hnc, hcm, hsz, htake⟩
  · omega
  · simp only [Value.slice.injEq] at hv
    obtain ⟨rfl, _, rfl⟩ := hv
    have hsub : subAd (some ⟨g, 0, none⟩) cap k sz = some ⟨g, k * sz, none⟩ := by
      unfold subAd
      rw [if_neg (by omega)]
      simp [Addr.add, eq_comm]
    obtain ⟨m, hm⟩ : ∃ m, n - k = m + 1 := ⟨n - k - 1, by omega⟩
    have hzs : zv.cells = zs.toArray := by
      apply Array.ext'
      simp [h5]
    have hlen : (Builtin.zeroCells zs.toArray (m + 1)).toList.length = (m + 1) * sz := by simp [Builtin.zeroCells, hz]
    have hfit : k * sz + 0 + (Builtin.zeroCells zs.toArray (m + 1)).toList.length ≤ cur.size := by
      rw [hlen, hsz, Nat.add_zero, ← Nat.add_mul]
      exact Nat.mul_le_mul_right _ (by omega)
    have hst := run_storeCells_at (P := P) g (k * sz) e (Builtin.zeroCells zs.toArray (m + 1)).toList 0 cur w hgg hfit (zeroCells_one (fun v hv => h1 v (by simpa using hv)))
    have hrun : (execOp (ev fr) ⟨none, .call { callee := .builtin .clear, args := #[x], argTypes := #[t] }, ty, pos, aft, none⟩).run P w = .ok (.value (.tuple #[])) (w.setRow g (cur.toList.take (k * sz + 0) ++ (Builtin.zeroCells zs.toArray (m + 1)).toList ++ cur.toList.drop (k * sz + 0 + (Builtin.zeroCells zs.toArray (m + 1)).toList.length)).toArray) := by
      have hxe := hx.eq
      rw [hsub, hm] at hxe
      simp only [execOp, resolve, invoke, builtin, List.map_toArray, List.map_cons, List.map_nil, hxe, Sem.run_bind, Sem.run_pure, Result.andThen_ok, Builtin.clear_, List.getElem?_toArray, List.getElem?_cons_zero, run_underlying hu, zeroValue, typeInfo, run_program, hi, h4, hzs, hst]
    refine wpList_runV rfl rfl hrun (n' _ ?_)
    rw [updL_set]
    refine s.setRes i _ _ hσ.get (by simp [World.setRow]) rfl rfl rfl ?_ ?_ (fun k hk => .inl hk)
    · intro b _ hne
      exact setRow_other w g b _ (fun e => hne (by simp [osl, Value.ownBlock, e]))
    · refine ⟨?_, .inr ⟨g, cap, _, rfl, Nat.zero_le _, setRow_heap w g _ _ _ _ hgg, by omega, hcm, ?_, ?_⟩⟩
      · rw [List.length_take, hxl]
        have : k * sz ≤ n * sz := Nat.mul_le_mul_right _ (by omega)
        omega
      · simp only [List.size_toArray, List.length_append, List.length_take, List.length_drop, Array.length_toList, hlen, hsz, Nat.add_zero]
        have e1 : k * sz + (m + 1) * sz ≤ cap * sz := by rw [← Nat.add_mul]; exact Nat.mul_le_mul_right _ (by omega)
        omega
      · have e1 : k * sz ≤ cur.toList.length := by
          rw [Array.length_toList, hsz]; exact Nat.mul_le_mul_right _ (by omega)
        simp only [Nat.add_zero]
        rw [List.append_assoc, List.take_append_of_le_length (by rw [List.length_take]; omega), List.take_take, Nat.min_self, ← htake, List.take_take, Nat.min_eq_left (Nat.mul_le_mul_right _ (by omega))]
/-- 'append([]T(nil), make([]T, n)...)', of which nothing is kept but the room. -/
theorem JL_growNil {t e tn : TypeId} {sz by' : Nat} {zs : List Value} {kn kk : IntKind} {x y : Operand} (n : Nat) {a : Int} (hs : slOf P t = some (e, sz, by', zs)) (hz : zs.length = sz) (htn : P.underlying tn = some (.int kn)) (hx : Ev fr x (.slice none 0 0)) (hy : Ev fr y (.int kk a)) (ha : a = (n : Int)) (h0 : 0 < n) (hsz : 0 < sz) (h63 : n ≤ 9223372036854775807) (hbytes : n * by' ≤ 140737488355328)
    (k : ∀ g cap, n ≤ cap ∧ cap ≤ 9223372036854775807 → JL P ops Q w0 (σ ++ [osl (some ⟨g, 0, none⟩) 0 cap e sz []]) φ rest (upd fr d (.slice (some ⟨g, 0, none⟩) n cap))) :
    JL P ops Q w0 σ φ (⟨some d, .call { callee := .builtin .append, args := #[x, y], argTypes := #[t, tn] }, ty, pos, aft, none⟩ :: rest) fr := by
  subst ha
  intro w s
  obtain ⟨ti, zv, hu, hi, h2, h3, h4, h5⟩ := slOf_spec hs
  have hr := Lib.run_append_nil_zeros (P := P) w t tn ty e ti zv kk kn hu htn hi h4 n h0 (by rw [h2]; exact hsz) (by omega) (by rw [h3]; omega)
  have hge := grownCap_ge w n 0 e
  have hcm : grownCap w n 0 e ≤ maxLen := grownCap_le_maxLen w n 0 e (by unfold maxLen; omega)
  have hzs : zv.cells.size = sz := by
    have : zv.cells.toList.length = zs.length := by rw [h5]
    rw [← hz, ← this]; simp
  refine wpList_run rfl rfl (v := .slice (some ⟨w.heap.size, 0, none⟩) n (grownCap w n 0 e)) (w' := w.drew.alloc (.cells (Builtin.zeroCells zv.cells n ++ Builtin.zeroCells zv.cells (grownCap w n 0 e - n)) e)) ?_ (k w.heap.size (grownCap w n 0 e) ⟨hge, by simpa [maxLen] using hcm⟩ _ ?_)
  · simp [execOp, resolve, invoke, builtin, hx.eq, hy.eq, hr]
  · refine s.addRes _ (((Below.refl _ _).drew).alloc (Nat.le_refl _) _) ?_ (fun b hb => by simp [osl, Value.ownBlock] at hb; omega)
    refine ⟨by simp, .inr ⟨w.heap.size, grownCap w n 0 e, _, rfl, Nat.zero_le _, heap_alloc_new w.drew _, Nat.zero_le _, hcm, ?_, by simp⟩⟩
    simp only [Builtin.zeroCells, Array.size_append, Array.size_map, Array.size_range, hzs]
    rw [← Nat.add_mul]
    congr 1
    omega
theorem JL_cap {t e rt : TypeId} {sz by' : Nat} {z : List Value} {x : Operand} {ad : Option Addr} {len cap : Nat} (hs : slOf P t = some (e, sz, by', z)) (hx : Ev fr x (.slice ad len cap))
    (k : JL P ops Q w0 σ φ rest (upd fr d (.int .i64 cap))) : JL P ops Q w0 σ φ (⟨some d, .call { callee := .builtin .cap, args := #[x], argTypes := #[t] }, rt, pos, aft, none⟩ :: rest) fr :=
  JL_pure _ (fun w => by
    obtain ⟨i, zv, hu, _⟩ := slOf_spec hs
    simp [execOp, resolve, invoke, builtin, hx.eq, Builtin.cap_, run_underlying hu, goInt]) k
theorem JC_ownCap {c : Code} {ad : Option Addr} {n cap sz : Nat} {E : TypeId} {xs : List Value} (i : Nat) (h : Nth σ i (osl ad n cap E sz xs)) (k : n ≤ cap ∧ cap ≤ 9223372036854775807 → JC P c Q w0 σ φ fr) : JC P c Q w0 σ φ fr := fun w s => k (osl_cap (s.own _ h.mem)) w s
theorem JE_addNil {e : Exit} (E : TypeId) (sz : Nat) (k : JE Q e w0 (σ ++ [osl none 0 0 E sz []]) φ fr) : JE Q e w0 σ φ fr := JE_conv (fun _ s => s.addNil E sz) k
end
end Go.Fw

/- The program logic: shifts, bits, arrays in boxes, appending to immutable data anew. -/
namespace Go.Fw
open Go Go.RowKit
section
variable {P : Program} {t e : TypeId} {sz by' : Nat} {zs : List Value} {ty : TypeId} {w : World}
end
section
variable {P : Program} {Q : Exit → Act → World → Prop} {w0 : Ctx} {σ σ' : List Res} {φ φ' : List (Bool × VP)} {fr : Fr} {ops : Array Oper} {rest : List Oper}
  {d : Nat} {ty : TypeId} {pos : String} {aft : Array Edge}
/-! ### Shifts and bits -/
/-! ### Arrays in boxes -/
end
/-! ### A field of a value -/
section
variable {P : Program} {Q : Exit → Act → World → Prop} {w0 : Ctx} {σ σ' : List Res} {φ φ' : List (Bool × VP)} {fr : Fr} {ops : Array Oper} {rest : List Oper}
  {d : Nat} {ty : TypeId} {pos : String} {aft : Array Edge}
end
/-! ## Numbers as sets of bits -/
end Go.Fw

/- The program logic: functions that are handed own slices beside data that is not fresh. -/
namespace Go.Fw
open Go Go.RowKit
section
variable {P : Program} {Q : Exit → Act → World → Prop} {w0 : Ctx} {σ : List Res} {φ : List (Bool × VP)} {fr : Fr} {ops : Array Oper} {rest : List Oper}
  {d : Nat} {ty : TypeId} {pos : String} {aft : Array Edge}
def AsksQ (w0 : Ctx) (σ : List Res) (φ : List (Bool × VP)) (φin : List VP) : Prop := ∀ w, St w0 w σ φ → ∀ p ∈ φin, p.holds (Xof w0 σ false) w
theorem AsksQ.nil : AsksQ w0 σ φ [] := fun _ _ p hp => by cases hp
theorem AsksQ.cons {p : VP} {ps : List VP} (h : ∀ w, St w0 w σ φ → p.holds (Xof w0 σ false) w) (h' : AsksQ w0 σ φ ps) : AsksQ w0 σ φ (p :: ps) := fun w s q hq => by
  rcases List.mem_cons.1 hq with rfl | hq
  · exact h w s
  · exact h' w s q hq
end
end Go.Fw

/- The program logic: a call that is handed the last own slice, beside other resources. -/
namespace Go.Fw
open Go Go.RowKit
section
variable {P : Program} {Q : Exit → Act → World → Prop} {w0 : Ctx} {σ σ' : List Res} {φ φ' : List (Bool × VP)} {fr : Fr} {ops : Array Oper} {rest : List Oper}
  {d : Nat} {ty : TypeId} {pos : String} {aft : Array Edge}
end
end Go.Fw
