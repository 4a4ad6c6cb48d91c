/- The program logic: pairs compared, own slices read and cleared through a cut, a slice grown from nothing. -/
import Derived.Test.YtmambmpohkollaaGreatDoorFwQS
import Derived.Test.YtmambmpohkollaaGreatDoorCcAB
import Derived.Lib.AppendZeros
import Derived.Laws.CopyRow
import Derived.Laws.StructEq
import Derived.Laws.BitsAllLaws
import Derived.Laws.BitsLemmas
namespace Go.Fw
open Go Go.RowKit

/-- '==' and '!=' of pairs. -/
def EqP (P : Program) (T : TypeId) : Prop := ∀ (x y : Operand) (p q : Pr) (w : World),
  ((eqGuard .eql T x y (pv p) (pv q)).run P w = .ok () w ∧ (binOp .eql T (pv p) (pv q)).run P w = .ok (.bool (decide (p = q))) w) ∧
  ((eqGuard .neq T x y (pv p) (pv q)).run P w = .ok () w ∧ (binOp .neq T (pv p) (pv q)).run P w = .ok (.bool (decide (p ≠ q))) w)
section
variable {P : Program} {Q : Exit → Act → World → Prop} {w0 : Ctx} {σ : List Res} {φ : List (Bool × VP)} {fr : Fr} {ops : Array Oper} {rest : List Oper}
  {d : Nat} {ty : TypeId} {pos : String} {aft : Array Edge}
theorem JL_eqlP {t t' : TypeId} {x y : Operand} {p q : Pr} (hE : EqP P t) (hx : Ev fr x (pv p)) (hy : Ev fr y (pv q)) (n : JL P ops Q w0 σ φ rest (upd fr d (.bool (decide (p = q))))) : JL P ops Q w0 σ φ (⟨some d, .binOp .eql t x y t', ty, pos, aft, none⟩ :: rest) fr :=
  JL_pure _ (fun w => by
    simp only [execOp, hx.eq, hy.eq, Sem.run_bind, (hE x y p q w).1.1, (hE x y p q w).1.2, Result.andThen_ok, Sem.run_pure]) n
theorem JL_neqP {t t' : TypeId} {x y : Operand} {p q : Pr} (hE : EqP P t) (hx : Ev fr x (pv p)) (hy : Ev fr y (pv q)) (n : JL P ops Q w0 σ φ rest (upd fr d (.bool (decide (p ≠ q))))) : JL P ops Q w0 σ φ (⟨some d, .binOp .neq t x y t', ty, pos, aft, none⟩ :: rest) fr :=
  JL_pure _ (fun w => by
    simp only [execOp, hx.eq, hy.eq, Sem.run_bind, (hE x y p q w).2.1, (hE x y p q w).2.2, Result.andThen_ok, Sem.run_pure]) n
/-- Reading through a cut. -/
theorem Reads.sub {ad : Option Addr} {xs : List Value} (h : Reads w0 σ φ ad xs) (m l sz : Nat) (hx : xs.length ≤ m * sz) : Reads w0 σ φ (subAd ad m l sz) (xs.drop (l * sz)) := by
  intro w s
  obtain ⟨X, hc⟩ := h w s
  refine ⟨X, fun j u hj => ?_⟩
  rw [List.getElem?_drop] at hj
  obtain ⟨b, o, he, hX, hcell⟩ := hc (l * sz + j) u hj
  have hlt := (List.getElem?_eq_some_iff.1 hj).1
  subst he
  unfold subAd
  split
  · rename_i e; subst e; omega
  · refine ⟨b, o + l * sz, by simp [Addr.add], hX, ?_⟩
    rw [Nat.add_assoc]; exact hcell
theorem wpList_runV {o : Oper} {w w' : World} {v : Value} (hg : o.guard = none) (hd : o.dst = none) (hrun : (execOp (ev fr) o).run P w = .ok (.value v) w')
    (k : wpList P ops Q rest (act fr) w') : wpList P ops Q (o :: rest) (act fr) w := by
  refine wpList_plain hg fun K hK => ?_
  unfold Oper.wp
  rw [act_eval_fun, hrun]
  show K ((act fr).put o.dst v) w'
  rw [hd]
  exact hK _ _ k
theorem zeroCells_one {zs : Array Value} {n : Nat} (h : ∀ v ∈ zs, v.oneCell' = true) : ∀ v ∈ (Builtin.zeroCells zs n).toList, v.oneCell' = true := by
  intro v hv
  unfold Builtin.zeroCells at hv
  rw [Array.toList_map] at hv
  obtain ⟨i, hi, rfl⟩ := List.mem_map.1 hv
  have hi' : i < n * zs.size := by simpa using hi
  have h0 : 0 < zs.size := Nat.pos_of_ne_zero fun e => by rw [e] at hi'; omega
  have hlt : i % zs.size < zs.size := Nat.mod_lt _ h0
  rw [getElem!_pos zs _ hlt]
  exact h _ (Array.getElem_mem hlt)
/-- 'clear(s[k:])': what stood ahead stays. -/
theorem JL_clear {t e : TypeId} {sz by' : Nat} {zs : List Value} {x : Operand} {ad : Option Addr} {n cap k : Nat} {xs : List Value} (i : Nat) (hs : slOf P t = some (e, sz, by', zs)) (hz : zs.length = sz) (h1 : AllOne zs)
    (hx : Ev fr x (.slice (subAd ad cap k sz) (n - k) (cap - k))) (hσ : Nth σ i (osl ad n cap e sz xs)) (hk : k < n)
    (n' : JL P ops Q w0 (updL σ i (osl ad k cap e sz (xs.take (k * sz)))) φ rest fr) :
    JL P ops Q w0 σ φ (⟨none, .call { callee := .builtin .clear, args := #[x], argTypes := #[t] }, ty, pos, aft, none⟩ :: rest) fr := by
  intro w s
  obtain ⟨ti, zv, hu, hi, h2, h3, h4, h5⟩ := slOf_spec hs
  have hown := s.own _ hσ.mem
  obtain ⟨hxl, hown2⟩ := id hown
  rcases hown2 with ⟨hv, hn0⟩ | ⟨g, cap', cur, hv, hb, hgg, hnc, hcm, hsz, htake⟩
  · omega
  · simp only [Value.slice.injEq] at hv
    obtain ⟨rfl, _, rfl⟩ := hv
    have hsub : subAd (some ⟨g, 0, none⟩) cap k sz = some ⟨g, k * sz, none⟩ := by
      unfold subAd
      rw [if_neg (by omega)]
      simp [Addr.add, eq_comm]
    obtain ⟨m, hm⟩ : ∃ m, n - k = m + 1 := ⟨n - k - 1, by omega⟩
    have hzs : zv.cells = zs.toArray := by
      apply Array.ext'
      simp [h5]
    have hlen : (Builtin.zeroCells zs.toArray (m + 1)).toList.length = (m + 1) * sz := by simp [Builtin.zeroCells, hz]
    have hfit : k * sz + 0 + (Builtin.zeroCells zs.toArray (m + 1)).toList.length ≤ cur.size := by
      rw [hlen, hsz, Nat.add_zero, ← Nat.add_mul]
      exact Nat.mul_le_mul_right _ (by omega)
    have hst := run_storeCells_at (P := P) g (k * sz) e (Builtin.zeroCells zs.toArray (m + 1)).toList 0 cur w hgg hfit (zeroCells_one (fun v hv => h1 v (by simpa using hv)))
    have hrun : (execOp (ev fr) ⟨none, .call { callee := .builtin .clear, args := #[x], argTypes := #[t] }, ty, pos, aft, none⟩).run P w = .ok (.value (.tuple #[])) (w.setRow g (cur.toList.take (k * sz + 0) ++ (Builtin.zeroCells zs.toArray (m + 1)).toList ++ cur.toList.drop (k * sz + 0 + (Builtin.zeroCells zs.toArray (m + 1)).toList.length)).toArray) := by
      have hxe := hx.eq
      rw [hsub, hm] at hxe
      simp only [execOp, resolve, invoke, builtin, List.map_toArray, List.map_cons, List.map_nil, hxe, Sem.run_bind, Sem.run_pure, Result.andThen_ok, Builtin.clear_, List.getElem?_toArray, List.getElem?_cons_zero, run_underlying hu, zeroValue, typeInfo, run_program, hi, h4, hzs, hst]
    refine wpList_runV rfl rfl hrun (n' _ ?_)
    rw [updL_set]
    refine s.setRes i _ _ hσ.get (by simp [World.setRow]) rfl rfl rfl ?_ ?_ (fun k hk => .inl hk)
    · intro b _ hne
      exact setRow_other w g b _ (fun e => hne (by simp [osl, Value.ownBlock, e]))
    · refine ⟨?_, .inr ⟨g, cap, _, rfl, Nat.zero_le _, setRow_heap w g _ _ _ _ hgg, by omega, hcm, ?_, ?_⟩⟩
      · rw [List.length_take, hxl]
        have : k * sz ≤ n * sz := Nat.mul_le_mul_right _ (by omega)
        omega
      · simp only [List.size_toArray, List.length_append, List.length_take, List.length_drop, Array.length_toList, hlen, hsz, Nat.add_zero]
        have e1 : k * sz + (m + 1) * sz ≤ cap * sz := by rw [← Nat.add_mul]; exact Nat.mul_le_mul_right _ (by omega)
        omega
      · have e1 : k * sz ≤ cur.toList.length := by
          rw [Array.length_toList, hsz]; exact Nat.mul_le_mul_right _ (by omega)
        simp only [Nat.add_zero]
        rw [List.append_assoc, List.take_append_of_le_length (by rw [List.length_take]; omega), List.take_take, Nat.min_self, ← htake, List.take_take, Nat.min_eq_left (Nat.mul_le_mul_right _ (by omega))]
/-- 'append([]T(nil), make([]T, n)...)', of which nothing is kept but the room. -/
theorem JL_growNil {t e tn : TypeId} {sz by' : Nat} {zs : List Value} {kn kk : IntKind} {x y : Operand} (n : Nat) {a : Int} (hs : slOf P t = some (e, sz, by', zs)) (hz : zs.length = sz) (htn : P.underlying tn = some (.int kn)) (hx : Ev fr x (.slice none 0 0)) (hy : Ev fr y (.int kk a)) (ha : a = (n : Int)) (h0 : 0 < n) (hsz : 0 < sz) (h63 : n ≤ 9223372036854775807) (hbytes : n * by' ≤ 140737488355328)
    (k : ∀ g cap, n ≤ cap ∧ cap ≤ 9223372036854775807 → JL P ops Q w0 (σ ++ [osl (some ⟨g, 0, none⟩) 0 cap e sz []]) φ rest (upd fr d (.slice (some ⟨g, 0, none⟩) n cap))) :
    JL P ops Q w0 σ φ (⟨some d, .call { callee := .builtin .append, args := #[x, y], argTypes := #[t, tn] }, ty, pos, aft, none⟩ :: rest) fr := by
  subst ha
  intro w s
  obtain ⟨ti, zv, hu, hi, h2, h3, h4, h5⟩ := slOf_spec hs
  have hr := Lib.run_append_nil_zeros (P := P) w t tn ty e ti zv kk kn hu htn hi h4 n h0 (by rw [h2]; exact hsz) (by omega) (by rw [h3]; omega)
  have hge := grownCap_ge w n 0 e
  have hcm : grownCap w n 0 e ≤ maxLen := grownCap_le_maxLen w n 0 e (by unfold maxLen; omega)
  have hzs : zv.cells.size = sz := by
    have : zv.cells.toList.length = zs.length := by rw [h5]
    rw [← hz, ← this]; simp
  refine wpList_run rfl rfl (v := .slice (some ⟨w.heap.size, 0, none⟩) n (grownCap w n 0 e)) (w' := w.drew.alloc (.cells (Builtin.zeroCells zv.cells n ++ Builtin.zeroCells zv.cells (grownCap w n 0 e - n)) e)) ?_ (k w.heap.size (grownCap w n 0 e) ⟨hge, by simpa [maxLen] using hcm⟩ _ ?_)
  · simp [execOp, resolve, invoke, builtin, hx.eq, hy.eq, hr]
  · refine s.addRes _ (((Below.refl _ _).drew).alloc (Nat.le_refl _) _) ?_ (fun b hb => by simp [osl, Value.ownBlock] at hb; omega)
    refine ⟨by simp, .inr ⟨w.heap.size, grownCap w n 0 e, _, rfl, Nat.zero_le _, heap_alloc_new w.drew _, Nat.zero_le _, hcm, ?_, by simp⟩⟩
    simp only [Builtin.zeroCells, Array.size_append, Array.size_map, Array.size_range, hzs]
    rw [← Nat.add_mul]
    congr 1
    omega
theorem JL_cap {t e rt : TypeId} {sz by' : Nat} {z : List Value} {x : Operand} {ad : Option Addr} {len cap : Nat} (hs : slOf P t = some (e, sz, by', z)) (hx : Ev fr x (.slice ad len cap))
    (k : JL P ops Q w0 σ φ rest (upd fr d (.int .i64 cap))) : JL P ops Q w0 σ φ (⟨some d, .call { callee := .builtin .cap, args := #[x], argTypes := #[t] }, rt, pos, aft, none⟩ :: rest) fr :=
  JL_pure _ (fun w => by
    obtain ⟨i, zv, hu, _⟩ := slOf_spec hs
    simp [execOp, resolve, invoke, builtin, hx.eq, Builtin.cap_, run_underlying hu, goInt]) k
theorem JC_ownCap {c : Code} {ad : Option Addr} {n cap sz : Nat} {E : TypeId} {xs : List Value} (i : Nat) (h : Nth σ i (osl ad n cap E sz xs)) (k : n ≤ cap ∧ cap ≤ 9223372036854775807 → JC P c Q w0 σ φ fr) : JC P c Q w0 σ φ fr := fun w s => k (osl_cap (s.own _ h.mem)) w s
theorem Reads.subP {ad : Option Addr} {n cap : Nat} {E : TypeId} {row : List Pr} (i : Nat) (h : Nth σ i (osl ad n cap E 2 (pcells row))) (k : Nat) (hc : row.length ≤ cap) : Reads w0 σ φ (subAd ad cap k 2) (pcells (row.drop k)) := by
  rw [← pcells_drop]
  exact (Reads.own i h).sub cap k 2 (by rw [pcells_length]; omega)
theorem Reads.subI {ad : Option Addr} {n cap : Nat} {E : TypeId} {row : List Int} (i : Nat) (h : Nth σ i (osl ad n cap E 1 (i64s row))) (k : Nat) (hc : row.length ≤ cap) : Reads w0 σ φ (subAd ad cap k 1) (i64s (row.drop k)) := by
  have := (Reads.own (w0 := w0) (φ := φ) i h).sub cap k 1 (by rw [i64s_length]; omega)
  rw [Nat.mul_one] at this
  rwa [show (i64s row).drop k = i64s (row.drop k) from by unfold i64s; rw [List.map_drop]] at this
theorem JE_addNil {e : Exit} (E : TypeId) (sz : Nat) (k : JE Q e w0 (σ ++ [osl none 0 0 E sz []]) φ fr) : JE Q e w0 σ φ fr := JE_conv (fun _ s => s.addNil E sz) k
end
end Go.Fw

/- The program logic: shifts, bits, arrays in boxes, appending to immutable data anew. -/
namespace Go.Fw
open Go Go.RowKit
section
variable {P : Program} {t e : TypeId} {sz by' : Nat} {zs : List Value} {ty : TypeId} {w : World}
/-- Append onto immutable data without spare room, something: a new block. -/
theorem run_append_own {X : Nat → Prop} {ad ad2 : Option Addr} {n cap m c : Nat} {xs news : List Value} (hs : slOf P t = some (e, sz, by', zs)) (hz : zs.length = sz) (hsz : 0 < sz) (hx : CellsAt X w ad xs) (hxl : xs.length = n * sz) (hcap : cap = n) (hm : 0 < m)
    (hl : news.length = m * sz) (hsrc : SrcAt w ad2 news) (h63 : n + m ≤ 9223372036854775807) (hbytes : (n + m) * by' ≤ 140737488355328) :
    ∃ cap' w', (Builtin.append_ #[t, t] ty #[.slice ad n cap, .slice ad2 m c]).run P w = .ok (.slice (some ⟨w.heap.size, 0, none⟩) (n + m) cap') w' ∧ Below w.heap.size w w' ∧ (osl (some ⟨w.heap.size, 0, none⟩) (n + m) cap' e sz (xs ++ news)).holds w' := by
  have h63' : n + m ≤ maxLen := by simpa [maxLen] using h63
  obtain ⟨i, zv, hu, hi, hi1, hi2, hi3, hi4⟩ := slOf_spec hs
  have hzv : zv.cells.size = sz := by rw [← hz, ← hi4]; simp
  subst hcap
  have hpos : 0 < news.length := by rw [hl]; exact Nat.mul_pos (by omega) hsz
  obtain ⟨a, rfl, _⟩ := hsrc 0 _ (List.getElem?_eq_getElem hpos)
  have hnews : ∀ j u, news[j]? = some u → w.cell? (a.add j) = some u := fun j u hj => by
    obtain ⟨a', he, hc⟩ := hsrc j u hj
    obtain rfl : a = a' := by simpa using he
    exact hc
  have hgr := osl_grown (w := w) (e := e) (n := cap) (m := m) (old := cap) (xs := xs) (news := news) hzv hxl hl h63'
  have hbl : ∀ (o : Obj), Below w.heap.size w (w.drew.alloc o) := fun o => ((Below.refl _ _).drew).alloc (by simp) o
  cases had : ad with
  | none =>
    have hx0 : xs = [] := by
      cases hxs : xs with
      | nil => rfl
      | cons v l => obtain ⟨b, o, he, _⟩ := hx 0 v (by rw [hxs]; rfl); rw [had] at he; cases he
    subst hx0
    have hc0 : cap = 0 := by
      have h0 : cap * sz = 0 := by simpa using hxl.symm
      rcases Nat.mul_eq_zero.1 h0 with h | h
      · exact h
      · omega
    subst hc0
    have hr := run_append_nil (P := P) w t ty e i zv hu hi hi3 a m c news (by rw [hi1]; exact hl) hnews (by omega) (by omega) (by rw [hi2]; simp at hbytes; omega)
    simp only [Nat.zero_add, List.nil_append, Array.empty_append] at hgr ⊢
    exact ⟨_, _, hr, hbl _, hgr⟩
  | some b =>
    have holds : ∀ j u, xs[j]? = some u → w.cell? (b.add j) = some u := fun j u hj => by
      obtain ⟨a', he, hc⟩ := hx.some hj
      rw [had] at he
      obtain rfl : b = a' := by simpa using he
      exact hc
    have hr := run_append_grow (P := P) w t ty e i zv hu hi hi3 b cap cap xs (by rw [hi1]; exact hxl) holds a m c news (by rw [hi1]; exact hl) hnews (by omega) (by omega) (growslice_fits (by omega) (by rw [hi2]; exact hbytes))
    exact ⟨_, _, hr, hbl _, hgr⟩
end
section
variable {P : Program} {Q : Exit → Act → World → Prop} {w0 : Ctx} {σ σ' : List Res} {φ φ' : List (Bool × VP)} {fr : Fr} {ops : Array Oper} {rest : List Oper}
  {d : Nat} {ty : TypeId} {pos : String} {aft : Array Edge}
theorem JL_appendN {t e : TypeId} {sz by' : Nat} {zs : List Value} {x y : Operand} {ad ad2 : Option Addr} {n cap m c : Nat} {xs news : List Value} (hs : slOf P t = some (e, sz, by', zs)) (hz : zs.length = sz) (hsz : 0 < sz)
    (hx : Ev fr x (.slice ad n cap)) (hy : Ev fr y (.slice ad2 m c)) (hv : Reads w0 σ φ ad xs) (hxl : xs.length = n * sz) (hcap : cap = n) (hm : 0 < m) (hl : news.length = m * sz) (hr : Reads w0 σ φ ad2 news)
    (h63 : n + m ≤ 9223372036854775807) (hbytes : (n + m) * by' ≤ 140737488355328)
    (k : ∀ ad' cap', JL P ops Q w0 (σ ++ [osl ad' (n + m) cap' e sz (xs ++ news)]) φ rest (upd fr d (.slice ad' (n + m) cap'))) :
    JL P ops Q w0 σ φ (⟨some d, .call { callee := .builtin .append, args := #[x, y], argTypes := #[t, t] }, ty, pos, aft, none⟩ :: rest) fr := by
  intro w s
  obtain ⟨X, hc⟩ := hr w s
  obtain ⟨X', hvw⟩ := hv w s
  obtain ⟨cap', w', hrun, hbel, hown⟩ := run_append_own (ty := ty) (c := c) hs hz hsz hvw hxl hcap hm hl hc.src h63 hbytes
  refine wpList_run rfl rfl (by rw [exec_append hx hy, hrun]; rfl) (k _ cap' w' ?_)
  refine s.addRes _ hbel hown fun k hk => ?_
  simp only [osl, Value.ownBlock, Option.some.injEq] at hk
  omega
/-! ### Shifts and bits -/
theorem JL_shl_to {t t' : TypeId} {x y : Operand} {k k2 : IntKind} {a b c : Int} (hx : Ev fr x (.int k a)) (hy : Ev fr y (.int k2 b)) (hb : 0 ≤ b) (hc : k.wrap (a * 2 ^ (min b.toNat k.bits)) = c) (n : JL P ops Q w0 σ φ rest (upd fr d (.int k c))) :
    JL P ops Q w0 σ φ (⟨some d, .binOp .shl t x y t', ty, pos, aft, none⟩ :: rest) fr :=
  JL_pure _ (fun w => by
    have hb' : ¬ b < 0 := by omega
    simp [execOp, hx.eq, hy.eq, binOp, eqGuard, Op.shift, hb', hc]) n
theorem JL_shr_to {t t' : TypeId} {x y : Operand} {k k2 : IntKind} {a b c : Int} (hx : Ev fr x (.int k a)) (hy : Ev fr y (.int k2 b)) (hb : 0 ≤ b) (hc : a.fdiv (2 ^ (min b.toNat k.bits)) = c) (n : JL P ops Q w0 σ φ rest (upd fr d (.int k c))) :
    JL P ops Q w0 σ φ (⟨some d, .binOp .shr t x y t', ty, pos, aft, none⟩ :: rest) fr :=
  JL_pure _ (fun w => by
    have hb' : ¬ b < 0 := by omega
    simp [execOp, hx.eq, hy.eq, binOp, eqGuard, Op.shift, hb', hc]) n
theorem JL_and_to {t t' : TypeId} {x y : Operand} {k : IntKind} {a b c : Int} (hx : Ev fr x (.int k a)) (hy : Ev fr y (.int k b)) (hc : bits .and k a b = c) (n : JL P ops Q w0 σ φ rest (upd fr d (.int k c))) :
    JL P ops Q w0 σ φ (⟨some d, .binOp .and t x y t', ty, pos, aft, none⟩ :: rest) fr :=
  JL_pure _ (fun w => by simp [execOp, hx.eq, hy.eq, binOp, eqGuard, intBits_and, hc]) n
theorem JL_or_to {t t' : TypeId} {x y : Operand} {k : IntKind} {a b c : Int} (hx : Ev fr x (.int k a)) (hy : Ev fr y (.int k b)) (hc : bits .or k a b = c) (n : JL P ops Q w0 σ φ rest (upd fr d (.int k c))) :
    JL P ops Q w0 σ φ (⟨some d, .binOp .or t x y t', ty, pos, aft, none⟩ :: rest) fr :=
  JL_pure _ (fun w => by simp [execOp, hx.eq, hy.eq, binOp, eqGuard, intBits_or, hc]) n
theorem JL_andNot_to {t t' : TypeId} {x y : Operand} {k : IntKind} {a b c : Int} (hx : Ev fr x (.int k a)) (hy : Ev fr y (.int k b)) (hc : bits .andNot k a b = c) (n : JL P ops Q w0 σ φ rest (upd fr d (.int k c))) :
    JL P ops Q w0 σ φ (⟨some d, .binOp .andNot t x y t', ty, pos, aft, none⟩ :: rest) fr :=
  JL_pure _ (fun w => by simp [execOp, hx.eq, hy.eq, binOp, eqGuard, intBits_andNot, hc]) n
/-! ### Arrays in boxes -/
def arrOf (P : Program) (t : TypeId) : Option (Nat × TypeId × Nat) :=
  match P.underlying t with
  | some (.array n e) => match P.info? e with
    | some i => some (n, e, i.size)
    | none => none
  | _ => none
theorem JL_indexArr {t e : TypeId} {x y : Operand} {b o n sz : Nat} {kk : IntKind} {a : Int} (k : Nat) (hs : arrOf P t = some (n, e, sz)) (hx : Ev fr x (.pointer (some ⟨b, o, none⟩))) (hy : Ev fr y (.int kk a)) (ha : a = (k : Int)) (hk : k < n)
    (h : JL P ops Q w0 σ φ rest (upd fr d (.pointer (some ⟨b, o + k * sz, none⟩)))) : JL P ops Q w0 σ φ (⟨some d, .indexAddr t x y, ty, pos, aft, none⟩ :: rest) fr := by
  refine JL_pure _ (fun w => ?_) h
  unfold arrOf at hs
  split at hs
  · rename_i n' e' hu
    split at hs
    · rename_i i hi
      simp only [Option.some.injEq, Prod.mk.injEq] at hs
      obtain ⟨rfl, rfl, rfl⟩ := hs
      subst ha
      simp [execOp, hx.eq, hy.eq, Instr.indexAt, Instr.sureAddr, run_underlying hu, asIntOf, sizeOf, typeInfo, hi, hk, Addr.add]
    · cases hs
  · cases hs
theorem JL_loadAt {T T' : TypeId} {x : Operand} {b o n : Nat} {cs : List Value} {v : Value} (i : Nat) (hT : tyOf P T = some (false, n)) (hx : Ev fr x (.pointer (some ⟨b, o, none⟩))) (hσ : Nth σ i (box b T' cs)) (hv : cs[o]? = some v)
    (k : JL P ops Q w0 σ φ rest (upd fr d v)) : JL P ops Q w0 σ φ (⟨some d, .load T x, ty, pos, aft, none⟩ :: rest) fr :=
  JL_pureSt v (fun w s => by
    have hc := (cell_box (s.own _ hσ.mem) o).trans hv
    simp [execOp, hx.eq, Instr.loadAt, Instr.sureAddr, run_loadVar_one hT hc]) k
theorem NthL_self : ∀ (cs : List Value) (l pre : List Value), cs = pre ++ l → NthL cs pre.length l
  | _, [], _, _ => trivial
  | cs, v :: l, pre, h => by
    refine ⟨?_, ?_⟩
    · subst h
      clear NthL_self
      induction pre with
      | nil => rfl
      | cons u p ih => exact ih
    · have := NthL_self cs l (pre ++ [v]) (by rw [h]; simp)
      simpa using this
theorem JL_loadAll {T T' : TypeId} {x : Operand} {b : Nat} {cs : List Value} (i : Nat) (hT : tyOf P T = some (true, cs.length)) (hx : Ev fr x (.pointer (some ⟨b, 0, none⟩))) (hσ : Nth σ i (box b T' cs))
    (k : JL P ops Q w0 σ φ rest (upd fr d (.agg cs.toArray))) : JL P ops Q w0 σ φ (⟨some d, .load T x, ty, pos, aft, none⟩ :: rest) fr :=
  JL_loadA i hT hx hσ (NthL_self cs cs [] rfl) k
theorem JL_storeAt {T T' : TypeId} {x y : Operand} {b o : Nat} {cs : List Value} {v : Value} (i : Nat) (hT : tyOf P T = some (false, 1)) (hx : Ev fr x (.pointer (some ⟨b, o, none⟩))) (hy : Ev fr y v) (hc : v.cells = #[v]) (h1 : v.oneCell' = true)
    (hσ : Nth σ i (box b T' cs)) (hlen : o < cs.length) (k : JL P ops Q w0 (updL σ i (box b T' (cs.set o v))) φ rest fr) : JL P ops Q w0 σ φ (⟨none, .store T x y, ty, pos, aft, none⟩ :: rest) fr :=
  JL_store (vs := [v]) i hT hx hy hc (AllOne.cons h1 AllOne.nil) hσ (by show o + 1 ≤ cs.length; omega) (by simpa [setAll, updL_set] using k)
theorem setAll_full : ∀ (cs vs : List Value) (pre : List Value), cs.length = vs.length → setAll (pre ++ cs) pre.length vs = pre ++ vs
  | [], [], pre, _ => rfl
  | c :: cs, v :: vs, pre, h => by
    have ih := setAll_full cs vs (pre ++ [v]) (by simpa using h)
    rw [setAll, updL_set]
    have e : (pre ++ c :: cs).set pre.length v = (pre ++ [v]) ++ cs := by
      rw [List.set_append_right _ _ (Nat.le_refl _)]; simp
    rw [e]
    simpa using ih
theorem JL_storeAll {T T' : TypeId} {x y : Operand} {b : Nat} {cs vs : List Value} (i : Nat) (hT : tyOf P T = some (true, vs.length)) (hx : Ev fr x (.pointer (some ⟨b, 0, none⟩))) (hy : Ev fr y (.agg vs.toArray)) (h1 : AllOne vs)
    (hσ : Nth σ i (box b T' cs)) (hlen : cs.length = vs.length) (k : JL P ops Q w0 (updL σ i (box b T' vs)) φ rest fr) : JL P ops Q w0 σ φ (⟨none, .store T x y, ty, pos, aft, none⟩ :: rest) fr :=
  JL_store (vs := vs) i hT hx hy rfl h1 hσ (by omega) (by have := setAll_full cs vs [] hlen; simp only [List.nil_append, List.length_nil] at this; rw [this]; exact k)
end
/-! ### A field of a value -/
def fvOf (P : Program) (t : TypeId) (f : Nat) : Option Nat :=
  match P.underlying t with
  | some (.struct fields) => match fields[f]? with
    | some fd => match tyOf P fd.type with
      | some (false, _) => fOf P t f
      | _ => none
    | none => none
  | _ => none
section
variable {P : Program} {Q : Exit → Act → World → Prop} {w0 : Ctx} {σ σ' : List Res} {φ φ' : List (Bool × VP)} {fr : Fr} {ops : Array Oper} {rest : List Oper}
  {d : Nat} {ty : TypeId} {pos : String} {aft : Array Edge}
theorem JL_fieldN {t : TypeId} {x : Operand} {f off : Nat} {vs : List Value} {v : Value} (hf : fvOf P t f = some off) (hx : Ev fr x (.agg vs.toArray)) (hv : Nth vs off v)
    (k : JL P ops Q w0 σ φ rest (upd fr d v)) : JL P ops Q w0 σ φ (⟨some d, .field t x f, ty, pos, aft, none⟩ :: rest) fr := by
  unfold fvOf at hf
  split at hf
  · rename_i fields hu
    split at hf
    · rename_i fd hfd
      split at hf
      · rename_i n hn
        exact JL_field hf (fun fields' fd' h1 h2 => by
          rw [hu] at h1
          simp only [Option.some.injEq, TypeDesc.struct.injEq] at h1
          subst h1
          rw [hfd] at h2
          obtain rfl := Option.some.inj h2
          exact hn) hx hv k
      · cases hf
    · cases hf
  · cases hf
end
/-! ## Numbers as sets of bits -/
theorem shr_nat (k : IntKind) (a v : Nat) (hv : v ≤ k.bits) : (a : Int).fdiv (2 ^ (min ((v : Nat) : Int).toNat k.bits)) = ((a >>> v : Nat) : Int) := by
  rw [Int.toNat_natCast, Nat.min_eq_left hv, Nat.shiftRight_eq_div_pow]
  rw [Int.fdiv_eq_ediv_of_nonneg _ (Int.le_of_lt (Int.pow_pos (by decide)))]
  push_cast; rfl
theorem i64_back (r : Nat) (h : r < 9223372036854775808) : IntKind.i64.wrap (r : Int) = (r : Int) := by
  rw [IntKind.wrap_i64]; omega
theorem shl_i64 (v : Nat) (hv : v ≤ 62) : IntKind.i64.wrap (1 * 2 ^ (min ((v : Nat) : Int).toNat IntKind.i64.bits)) = ((2 ^ v : Nat) : Int) := by
  rw [Int.toNat_natCast, Nat.min_eq_left (show v ≤ IntKind.i64.bits from by simp only [IntKind.bits]; omega), Int.one_mul]
  have h : 2 ^ v ≤ 2 ^ 62 := Nat.pow_le_pow_right (by decide) hv
  have e : ((2 : Int) ^ v) = ((2 ^ v : Nat) : Int) := by push_cast; rfl
  rw [e]
  exact i64_back _ (Nat.lt_of_le_of_lt h (by decide))
theorem shl_u32 (v : Nat) (hv : v ≤ 31) : IntKind.u32.wrap (1 * 2 ^ (min ((v : Nat) : Int).toNat IntKind.u32.bits)) = ((2 ^ v : Nat) : Int) := by
  rw [Int.toNat_natCast, Nat.min_eq_left (show v ≤ IntKind.u32.bits from by simp only [IntKind.bits]; omega), Int.one_mul]
  have h : 2 ^ v ≤ 2 ^ 31 := Nat.pow_le_pow_right (by decide) hv
  have e : ((2 : Int) ^ v) = ((2 ^ v : Nat) : Int) := by push_cast; rfl
  rw [e]
  generalize 2 ^ v = X at h ⊢
  simp only [Nat.reducePow] at h
  rw [IntKind.wrap_u32']
  omega
theorem bit_zero (a v : Nat) : ((a >>> v &&& 1 : Nat) : Int) = 0 ↔ a.testBit v = false := by
  have h : a.testBit v = (a >>> v &&& 1 != 0) := by rw [Nat.testBit, Nat.and_comm]
  rw [h]
  generalize a >>> v &&& 1 = X
  by_cases hx : X = 0
  · subst hx; simp
  · simp only [bne_eq_false_iff_eq]; omega
theorem bit_iff (a v : Nat) : ((a >>> v &&& 1 : Nat) : Int) ≠ 0 ↔ a.testBit v = true := by
  rw [Ne, bit_zero]; simp
theorem and1_lt (a : Nat) : a &&& 1 < 2 := by rw [Nat.and_one_is_mod]; omega
theorem ofInt_i64 (a : Nat) (ha : a < 9223372036854775808) : (BitVec.ofInt 64 (a : Int)).toNat = a := by
  rw [BitVec.toNat_ofInt]; omega
theorem i64_and_nat (a b : Nat) (ha : a < 9223372036854775808) (hb : b < 9223372036854775808) : bits .and .i64 (a : Int) (b : Int) = ((a &&& b : Nat) : Int) := by
  show IntKind.i64.wrap (((BitVec.ofInt 64 (a : Int) &&& BitVec.ofInt 64 (b : Int)).toNat : Nat) : Int) = _
  rw [BitVec.toNat_and, ofInt_i64 a ha, ofInt_i64 b hb]
  exact i64_back _ (Nat.lt_of_le_of_lt Nat.and_le_left ha)
theorem i64_or_nat (a b : Nat) (ha : a < 9223372036854775808) (hb : b < 9223372036854775808) : bits .or .i64 (a : Int) (b : Int) = ((a ||| b : Nat) : Int) := by
  show IntKind.i64.wrap (((BitVec.ofInt 64 (a : Int) ||| BitVec.ofInt 64 (b : Int)).toNat : Nat) : Int) = _
  rw [BitVec.toNat_or, ofInt_i64 a ha, ofInt_i64 b hb]
  exact i64_back _ (Nat.or_lt_two_pow (n := 63) ha hb)
/-- What is in a, and not in b. -/
def bdiff (a b : Nat) : Nat := a ^^^ (a &&& b)
theorem testBit_bdiff (a b i : Nat) : (bdiff a b).testBit i = (a.testBit i && !b.testBit i) := by
  unfold bdiff
  rw [Nat.testBit_xor, Nat.testBit_and]
  cases a.testBit i <;> cases b.testBit i <;> rfl
theorem bdiff_le (a b : Nat) (n : Nat) (h : a < 2 ^ n) : bdiff a b < 2 ^ n := Nat.xor_lt_two_pow h (Nat.lt_of_le_of_lt Nat.and_le_left h)
theorem i64_andNot_nat (a b : Nat) (ha : a < 9223372036854775808) (hb : b < 9223372036854775808) : bits .andNot .i64 (a : Int) (b : Int) = ((bdiff a b : Nat) : Int) := by
  show IntKind.i64.wrap (((BitVec.ofInt 64 (a : Int) &&& ~~~ BitVec.ofInt 64 (b : Int)).toNat : Nat) : Int) = _
  have e : (BitVec.ofInt 64 (a : Int) &&& ~~~ BitVec.ofInt 64 (b : Int)).toNat = bdiff a b := by
    apply Nat.eq_of_testBit_eq
    intro i
    rw [testBit_bdiff, ← BitVec.getLsbD]
    rw [BitVec.getLsbD_and, BitVec.getLsbD_not]
    rw [BitVec.getLsbD, BitVec.getLsbD, ofInt_i64 a ha, ofInt_i64 b hb]
    by_cases hi : i < 64
    · simp [hi]
    · have : a.testBit i = false := Nat.testBit_lt_two_pow (Nat.lt_of_lt_of_le ha (Nat.le_trans (by decide : 9223372036854775808 ≤ 2 ^ 64) (Nat.pow_le_pow_right (by decide) (by omega))))
      simp [hi, this]
  rw [e]
  exact i64_back _ (bdiff_le a b 63 ha)
end Go.Fw

/- The program logic: functions that are handed own slices beside data that is not fresh. -/
namespace Go.Fw
open Go Go.RowKit
def ConQ (P : Program) (f : FuncId) (args : List Value) (rin : List Res) (φin : List VP) (Post : Value → List Res → List VP → Prop) : Prop :=
  ∀ (w0 : Ctx) (p0 p1 : VP) (w : World), St w0 w rin (φin.map (fun p => (false, p)) ++ [(false, p0), (true, p1)]) → Calls P f args.toArray w (PostO w0 p0 p1 Post)
theorem ConQ_of {P : Program} {f : FuncId} {fn : Func} {c : Code} {args : List Value} {rin : List Res} {φin : List VP} {Post : Value → List Res → List VP → Prop}
    (hf : P.funcs[f]? = some fn) (hb : fn.body = some c) (n : Nat) (b : List Value) (hfr : args ++ List.replicate (fn.ntmps - args.length) undef = b) (hn : b.length = n)
    (h : ∀ w0 p0 p1, JC P c (bodyPost P fn (PostO w0 p0 p1 Post)) w0 rin (φin.map (fun p => (false, p)) ++ [(false, p0), (true, p1)]) ⟨n, [], b⟩) : ConQ P f args rin φin Post := by
  intro w0 p0 p1 w s
  refine calls_of_wp hf hb ?_
  have he : (⟨args.toArray ++ Array.replicate (fn.ntmps - args.toArray.size) undef, []⟩ : Act) = act ⟨n, [], b⟩ := by
    rw [← hn, act_start, ← hfr]; simp
  rw [he]
  exact h w0 p0 p1 w s
section
variable {P : Program} {Q : Exit → Act → World → Prop} {w0 : Ctx} {σ : List Res} {φ : List (Bool × VP)} {fr : Fr} {ops : Array Oper} {rest : List Oper}
  {d : Nat} {ty : TypeId} {pos : String} {aft : Array Edge}
def AsksQ (w0 : Ctx) (σ : List Res) (φ : List (Bool × VP)) (φin : List VP) : Prop := ∀ w, St w0 w σ φ → ∀ p ∈ φin, p.holds (Xof w0 σ false) w
theorem AsksQ.nil : AsksQ w0 σ φ [] := fun _ _ p hp => by cases hp
theorem AsksQ.cons {p : VP} {ps : List VP} (h : ∀ w, St w0 w σ φ → p.holds (Xof w0 σ false) w) (h' : AsksQ w0 σ φ ps) : AsksQ w0 σ φ (p :: ps) := fun w s q hq => by
  rcases List.mem_cons.1 hq with rfl | hq
  · exact h w s
  · exact h' w s q hq
/-- A call that takes all own resources. -/
theorem JL_callQ {f : FuncId} {x : Operand} {xs : List Operand} {ts : Array TypeId} {vs : List Value} {φin : List VP} {Post : Value → List Res → List VP → Prop} (hin : AsksQ w0 σ φ φin) (con : ConQ P f vs σ φin Post) (hf : Ev fr x (.func (.func f) #[] #[])) (hc : callable P f = true) (ha : EvL fr xs vs)
    (k : ∀ v rout φo, Post v rout φo → JL P ops Q w0 rout (mapB true φo φ) rest (upd fr d v)) :
    JL P ops Q w0 σ φ (⟨some d, .call { callee := .value x, args := xs.toArray, argTypes := ts }, ty, pos, aft, none⟩ :: rest) fr := by
  intro w s
  have hs : St w0 w σ (φin.map (fun p => (false, p)) ++ [(false, vList ((φ.filter (fun q => !q.1)).map (·.2))), (true, vList ((φ.filter (fun q => q.1)).map (·.2)))]) := by
    refine ⟨s.base, s.own, s.fresh, s.dist, fun p hp => ?_⟩
    rcases List.mem_append.1 hp with hp | hp
    · obtain ⟨q, hq, rfl⟩ := List.mem_map.1 hp; exact hin w s q hq
    · simp only [List.mem_cons, List.not_mem_nil, or_false] at hp
      rcases hp with rfl | rfl
      · intro p hp
        obtain ⟨⟨b, q⟩, hq, rfl⟩ := List.mem_map.1 hp
        obtain ⟨h1, h2⟩ := List.mem_filter.1 hq
        cases b with
        | false => exact s.views _ h1
        | true => simp at h2
      · intro p hp
        obtain ⟨⟨b, q⟩, hq, rfl⟩ := List.mem_map.1 hp
        obtain ⟨h1, h2⟩ := List.mem_filter.1 hq
        cases b with
        | true => exact s.views _ h1
        | false => simp at h2
  refine wpList_call hf hc ha (con w0 _ _ w hs) ?_
  rintro e w' ⟨v, rout, φo, rfl, hP, s'⟩
  refine ⟨v, rfl, k v rout φo hP w' ⟨s'.base, s'.own, s'.fresh, s'.dist, fun p hp => ?_⟩⟩
  rw [mapB_eq] at hp
  rcases List.mem_append.1 hp with hp | hp
  · exact s'.views p (List.mem_append_left _ hp)
  · obtain ⟨b, q⟩ := p
    cases b with
    | false =>
      have := s'.views _ (List.mem_append_right _ List.mem_cons_self)
      exact this q (List.mem_map.2 ⟨_, List.mem_filter.2 ⟨hp, rfl⟩, rfl⟩)
    | true =>
      have := s'.views _ (List.mem_append_right _ (List.mem_cons_of_mem _ List.mem_cons_self))
      exact this q (List.mem_map.2 ⟨_, List.mem_filter.2 ⟨hp, rfl⟩, rfl⟩)
end
end Go.Fw

/- The program logic: a call that is handed the last own slice, beside other resources. -/
namespace Go.Fw
open Go Go.RowKit
section
variable {P : Program} {Q : Exit → Act → World → Prop} {w0 : Ctx} {σ σ' : List Res} {φ φ' : List (Bool × VP)} {fr : Fr} {ops : Array Oper} {rest : List Oper}
  {d : Nat} {ty : TypeId} {pos : String} {aft : Array Edge}
theorem JL_appendF {t e : TypeId} {sz by' : Nat} {zs : List Value} {x y : Operand} {ad ad2 : Option Addr} {n cap m c : Nat} {xs news : List Value} (hs : slOf P t = some (e, sz, by', zs)) (hz : zs.length = sz) (hsz : 0 < sz)
    (hx : Ev fr x (.slice ad n cap)) (hy : Ev fr y (.slice ad2 m c)) (hv : Reads w0 σ φ ad xs) (hxl : xs.length = n * sz) (hcap : cap = n) (hm : 0 < m) (hl : news.length = m * sz) (hr : Reads w0 σ φ ad2 news)
    (h63 : n + m ≤ 9223372036854775807) (hbytes : (n + m) * by' ≤ 140737488355328)
    (k : ∀ g, (∀ q ∈ σ, ∀ j, q.key = some j → j < g) → ∀ cap', JL P ops Q w0 (σ ++ [osl (some ⟨g, 0, none⟩) (n + m) cap' e sz (xs ++ news)]) φ rest (upd fr d (.slice (some ⟨g, 0, none⟩) (n + m) cap'))) :
    JL P ops Q w0 σ φ (⟨some d, .call { callee := .builtin .append, args := #[x, y], argTypes := #[t, t] }, ty, pos, aft, none⟩ :: rest) fr := by
  intro w s
  obtain ⟨X, hc⟩ := hr w s
  obtain ⟨X', hvw⟩ := hv w s
  obtain ⟨cap', w', hrun, hbel, hown⟩ := run_append_own (ty := ty) (c := c) hs hz hsz hvw hxl hcap hm hl hc.src h63 hbytes
  refine wpList_run rfl rfl (by rw [exec_append hx hy, hrun]; rfl) (k _ (fun q hq j hj => q.lt w (s.own q hq) j hj) cap' w' ?_)
  refine s.addRes _ hbel hown fun k hk => ?_
  simp only [osl, Value.ownBlock, Option.some.injEq] at hk
  omega
theorem JL_callOF {f : FuncId} {x : Operand} {xs : List Operand} {ts : Array TypeId} {vs : List Value} {Post : Value → List Res → List VP → Prop} {σ1 : List Res} {r : Res} {g : Nat} (con : ConO P f vs [r] [] Post) (hg : r.key = some g) (hlt : ∀ q ∈ σ1, ∀ j, q.key = some j → j < g)
    (hf : Ev fr x (.func (.func f) #[] #[])) (hc : callable P f = true) (ha : EvL fr xs vs)
    (k : ∀ v rout φo, Post v rout φo → JL P ops Q w0 (σ1 ++ rout) (φo.map (fun p => (false, p)) ++ φ.map (fun p => (false, p.2))) rest (upd fr d v)) :
    JL P ops Q w0 (σ1 ++ [r]) φ (⟨some d, .call { callee := .value x, args := xs.toArray, argTypes := ts }, ty, pos, aft, none⟩ :: rest) fr := by
  intro w s
  have hr : r.holds w := s.own r (List.mem_append_right _ List.mem_cons_self)
  have hgw : g < w.heap.size := r.lt w hr g hg
  have hg0 : w0.w.heap.size ≤ g := s.fresh r (List.mem_append_right _ List.mem_cons_self) g hg
  let W : World := { w with heap := w.heap.extract 0 g }
  have hWs : W.heap.size = g := by show (w.heap.extract 0 g).size = g; rw [Array.size_extract]; omega
  have hWb : ∀ k, k < g → W.heap[k]? = w.heap[k]? := fun k hk => by
    show (w.heap.extract 0 g)[k]? = _
    rw [Array.getElem?_extract]
    simp; omega
  let c0 : Ctx := ⟨W, fun k => ∃ q ∈ σ1, q.key = some k, fun k ⟨q, hq, hk⟩ => by rw [hWs]; exact hlt q hq k hk⟩
  have hs : St c0 w [r] (([] : List VP).map (fun p => (true, p)) ++ [(false, vList []), (true, vList (φ.map (·.2)))]) := by
    refine ⟨⟨rfl, rfl, rfl, by show W.heap.size ≤ _; omega, fun k hk => (hWb k (by rw [← hWs]; exact hk)).symm⟩, fun q hq => by obtain rfl := List.mem_singleton.1 hq; exact hr, fun q hq k hk => by
      obtain rfl := List.mem_singleton.1 hq
      rw [hg] at hk
      obtain rfl := Option.some.inj hk
      show W.heap.size ≤ _; omega, List.pairwise_singleton _ _, fun p hp => ?_⟩
    simp only [List.map_nil, List.nil_append, List.mem_cons, List.not_mem_nil, or_false] at hp
    rcases hp with rfl | rfl
    · intro p hp; cases hp
    · intro p hp
      obtain ⟨⟨b, q⟩, hq, rfl⟩ := List.mem_map.1 hp
      refine q.mono _ _ w w (s.views _ hq) (Nat.le_refl _) (fun _ _ _ => rfl) fun k _ hX => ?_
      rcases hX with ⟨q', hq', hk⟩ | ⟨_, q', hq', hk⟩
      · exact .inl ⟨q', List.mem_append_right _ hq', hk⟩
      · exact .inl ⟨q', List.mem_append_left _ hq', hk⟩
  refine wpList_call hf hc ha (con c0 _ _ w hs) ?_
  rintro e w' ⟨v, rout, φo, rfl, hP, s'⟩
  have hblk : ∀ k, k < g → w'.heap[k]? = w.heap[k]? := fun k hk => (s'.base.block k (by show k < W.heap.size; omega)).trans (hWb k hk)
  have hsz : g ≤ w'.heap.size := by have := s'.base.size; rw [← hWs]; exact this
  refine ⟨v, rfl, k v rout φo hP w' ⟨⟨s'.base.os.trans s.base.os, s'.base.tape.trans s.base.tape, s'.base.output.trans s.base.output, by omega, fun k hk => (hblk k (by omega)).trans (s.base.block k hk)⟩, fun q hq => ?_, fun q hq j hj => ?_, ?_, fun p hp => ?_⟩⟩
  · rcases List.mem_append.1 hq with hq | hq
    · exact q.mono w w' (s.own q (List.mem_append_left _ hq)) fun j hj => hblk j (hlt q hq j hj)
    · exact s'.own q hq
  · rcases List.mem_append.1 hq with hq | hq
    · exact s.fresh q (List.mem_append_left _ hq) j hj
    · have h1 : W.heap.size ≤ j := s'.fresh q hq j hj
      omega
  · refine List.pairwise_append.2 ⟨(List.pairwise_append.1 s.dist).1, s'.dist, fun a ha b hb j hj hj' => ?_⟩
    have h1 := hlt a ha j hj
    have h2 : W.heap.size ≤ j := s'.fresh b hb j hj'
    omega
  · rcases List.mem_append.1 hp with hp | hp
    · obtain ⟨q, hq, rfl⟩ := List.mem_map.1 hp
      refine q.mono _ _ w' w' (s'.views _ (List.mem_append_left _ (List.mem_map.2 ⟨q, hq, rfl⟩))) (Nat.le_refl _) (fun _ _ _ => rfl) fun j _ hX => ?_
      rcases hX with ⟨q', hq', hk⟩ | ⟨hh, _⟩
      · rcases List.mem_append.1 hq' with hq' | hq'
        · exact .inr ⟨rfl, q', hq', hk⟩
        · exact .inl ⟨q', hq', hk⟩
      · cases hh
    · obtain ⟨⟨b, q⟩, hq, rfl⟩ := List.mem_map.1 hp
      have hall := s'.views (true, vList (φ.map (·.2))) (List.mem_append_right _ (List.mem_cons_of_mem _ List.mem_cons_self))
      refine q.mono _ _ w' w' (hall q (List.mem_map.2 ⟨_, hq, rfl⟩)) (Nat.le_refl _) (fun _ _ _ => rfl) fun j _ hX => ?_
      rcases hX with ⟨q', hq', hk⟩ | ⟨hh, _⟩
      · rcases List.mem_append.1 hq' with hq' | hq'
        · exact .inr ⟨rfl, q', hq', hk⟩
        · exact .inl ⟨q', hq', hk⟩
      · cases hh
end
end Go.Fw
