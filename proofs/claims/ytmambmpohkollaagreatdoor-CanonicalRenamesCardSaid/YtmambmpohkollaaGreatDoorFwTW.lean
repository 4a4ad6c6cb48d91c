/- The program logic: pairs compared, own slices read and cleared through a cut, a slice grown from nothing. -/
import Derived.Test.YtmambmpohkollaaGreatDoorFwQS
import Derived.Test.YtmambmpohkollaaGreatDoorCcAB
import Derived.Lib.AppendZeros
import Derived.Laws.CopyRow
import Derived.Laws.StructEq
import Derived.Laws.BitsAllLaws
import Derived.Laws.BitsLemmas
namespace Go.Fw
open Go Go.RowKit

section
variable {P : Program} {Q : Exit → Act → World → Prop} {w0 : Ctx} {σ : List Res} {φ : List (Bool × VP)} {fr : Fr} {ops : Array Oper} {rest : List Oper}
  {d : Nat} {ty : TypeId} {pos : String} {aft : Array Edge}
/-- Reading through a cut. -/
theorem Reads.sub {ad : Option Addr} {xs : List Value} (h : Reads w0 σ φ ad xs) (m l sz : Nat) (hx : xs.length ≤ m * sz) : Reads w0 σ φ (subAd ad m l sz) (xs.drop (l * sz)) := by
  intro w s
  obtain ⟨X, hc⟩ := h w s
  refine ⟨X, fun j u hj => ?_⟩
  rw [List.getElem?_drop] at hj
  obtain ⟨b, o, he, hX, hcell⟩ := hc (l * sz + j) u hj
  have hlt := (List.getElem?_eq_some_iff.1 hj).1
  subst he
  unfold subAd
  split
  · rename_i e; subst e; omega
  · refine ⟨b, o + l * sz, by simp [Addr.add], hX, ?_⟩
    rw [Nat.add_assoc]; exact hcell
theorem wpList_runV {o : Oper} {w w' : World} {v : Value} (hg : o.guard = none) (hd : o.dst = none) (hrun : (execOp (ev fr) o).run P w = .ok (.value v) w')
    (k : wpList P ops Q rest (act fr) w') : wpList P ops Q (o :: rest) (act fr) w := by
  refine wpList_plain hg fun K hK => ?_
  unfold Oper.wp
  rw [act_eval_fun, hrun]
  show K ((act fr).put o.dst v) w'
  rw [hd]
  exact hK _ _ k
theorem zeroCells_one {zs : Array Value} {n : Nat} (h : ∀ v ∈ zs, v.oneCell' = true) : ∀ v ∈ (Builtin.zeroCells zs n).toList, v.oneCell' = true := by
  intro v hv
  unfold Builtin.zeroCells at hv
  rw [Array.toList_map] at hv
  obtain ⟨i, hi, rfl⟩ := List.mem_map.1 hv
  have hi' : i < n * zs.size := by simpa using hi
  have h0 : 0 < zs.size := Nat.pos_of_ne_zero fun e => by rw [e] at hi'; omega
  have hlt : i % zs.size < zs.size := Nat.mod_lt _ h0
  rw [getElem!_pos zs _ hlt]
  exact h _ (Array.getElem_mem hlt)
/-- 'clear(s[k:])': what stood ahead stays. -/
theorem JL_clear {t e : TypeId} {sz by' : Nat} {zs : List Value} {x : Operand} {ad : Option Addr} {n cap k : Nat} {xs : List Value} (i : Nat) (hs : slOf P t = some (e, sz, by', zs)) (hz : zs.length = sz) (h1 : AllOne zs)
    (hx : Ev fr x (.slice (subAd ad cap k sz) (n - k) (cap - k))) (hσ : Nth σ i (osl ad n cap e sz xs)) (hk : k < n)
    (n' : JL P ops Q w0 (updL σ i (osl ad k cap e sz (xs.take (k * sz)))) φ rest fr) :
    JL P ops Q w0 σ φ (⟨none, .call { callee := .builtin .clear, args := #[x], argTypes := #[t] }, ty, pos, aft, none⟩ :: rest) fr := by
  intro w s
  obtain ⟨ti, zv, hu, hi, h2, h3, h4, h5⟩ := slOf_spec hs
  have hown := s.own _ hσ.mem
  obtain ⟨hxl, hown2⟩ := id hown
  rcases hown2 with ⟨hv, hn0⟩ | ⟨g, cap', cur, hv, hb, hgg, hnc, hcm, hsz, htake⟩
  · omega
  · simp only [Value.slice.injEq] at hv
    obtain ⟨rfl, _, rfl⟩ := hv
    have hsub : subAd (some ⟨g, 0, none⟩) cap k sz = some ⟨g, k * sz, none⟩ := by
      unfold subAd
      rw [if_neg (by omega)]
      simp [Addr.add, eq_comm]
    obtain ⟨m, hm⟩ : ∃ m, n - k = m + 1 := ⟨n - k - 1, by omega⟩
    have hzs : zv.cells = zs.toArray := by
      apply Array.ext'
      simp [h5]
    have hlen : (Builtin.zeroCells zs.toArray (m + 1)).toList.length = (m + 1) * sz := by simp [Builtin.zeroCells, hz]
    have hfit : k * sz + 0 + (Builtin.zeroCells zs.toArray (m + 1)).toList.length ≤ cur.size := by
      rw [hlen, hsz, Nat.add_zero, ← Nat.add_mul]
      exact Nat.mul_le_mul_right _ (by omega)
    have hst := run_storeCells_at (P := P) g (k * sz) e (Builtin.zeroCells zs.toArray (m + 1)).toList 0 cur w hgg hfit (zeroCells_one (fun v hv => h1 v (by simpa using hv)))
    have hrun : (execOp (ev fr) ⟨none, .call { callee := .builtin .clear, args := #[x], argTypes := #[t] }, ty, pos, aft, none⟩).run P w = .ok (.value (.tuple #[])) (w.setRow g (cur.toList.take (k * sz + 0) ++ (Builtin.zeroCells zs.toArray (m + 1)).toList ++ cur.toList.drop (k * sz + 0 + (Builtin.zeroCells zs.toArray (m + 1)).toList.length)).toArray) := by
      have hxe := hx.eq
      rw [hsub, hm] at hxe
      simp only [execOp, resolve, invoke, builtin, List.map_toArray, List.map_cons, List.map_nil, hxe, Sem.run_bind, Sem.run_pure, Result.andThen_ok, Builtin.clear_, List.getElem?_toArray, List.getElem?_cons_zero, run_underlying hu, zeroValue, typeInfo, run_program, hi, h4, hzs, hst]
    refine wpList_runV rfl rfl hrun (n' _ ?_)
    rw [updL_set]
    refine s.setRes i _ _ hσ.get (by simp [World.setRow]) rfl rfl rfl ?_ ?_ (fun k hk => .inl hk)
    · intro b _ hne
      exact setRow_other w g b _ (fun e => hne (by simp [osl, Value.ownBlock, e]))
    · refine ⟨?_, .inr ⟨g, cap, _, rfl, Nat.zero_le _, setRow_heap w g _ _ _ _ hgg, by omega, hcm, ?_, ?_⟩⟩
      · rw [List.length_take, hxl]
        have : k * sz ≤ n * sz := Nat.mul_le_mul_right _ (by omega)
        omega
      · simp only [List.size_toArray, List.length_append, List.length_take, List.length_drop, Array.length_toList, hlen, hsz, Nat.add_zero]
        have e1 : k * sz + (m + 1) * sz ≤ cap * sz := by rw [← Nat.add_mul]; exact Nat.mul_le_mul_right _ (by omega)
        omega
      · have e1 : k * sz ≤ cur.toList.length := by
          rw [Array.length_toList, hsz]; exact Nat.mul_le_mul_right _ (by omega)
        simp only [Nat.add_zero]
        rw [List.append_assoc, List.take_append_of_le_length (by rw [List.length_take]; omega), List.take_take, Nat.min_self, ← htake, List.take_take, Nat.min_eq_left (Nat.mul_le_mul_right _ (by omega))]
theorem JC_ownCap {c : Code} {ad : Option Addr} {n cap sz : Nat} {E : TypeId} {xs : List Value} (i : Nat) (h : Nth σ i (osl ad n cap E sz xs)) (k : n ≤ cap ∧ cap ≤ 9223372036854775807 → JC P c Q w0 σ φ fr) : JC P c Q w0 σ φ fr := fun w s => k (osl_cap (s.own _ h.mem)) w s
theorem Reads.subI {ad : Option Addr} {n cap : Nat} {E : TypeId} {row : List Int} (i : Nat) (h : Nth σ i (osl ad n cap E 1 (i64s row))) (k : Nat) (hc : row.length ≤ cap) : Reads w0 σ φ (subAd ad cap k 1) (i64s (row.drop k)) := by
  have := (Reads.own (w0 := w0) (φ := φ) i h).sub cap k 1 (by rw [i64s_length]; omega)
  rw [Nat.mul_one] at this
  rwa [show (i64s row).drop k = i64s (row.drop k) from by unfold i64s; rw [List.map_drop]] at this
theorem JE_addNil {e : Exit} (E : TypeId) (sz : Nat) (k : JE Q e w0 (σ ++ [osl none 0 0 E sz []]) φ fr) : JE Q e w0 σ φ fr := JE_conv (fun _ s => s.addNil E sz) k
end
end Go.Fw

/- The program logic: shifts, bits, arrays in boxes, appending to immutable data anew. -/
namespace Go.Fw
open Go Go.RowKit
section
variable {P : Program} {t e : TypeId} {sz by' : Nat} {zs : List Value} {ty : TypeId} {w : World}
/-- Append onto immutable data without spare room, something: a new block. -/
theorem run_append_own {X : Nat → Prop} {ad ad2 : Option Addr} {n cap m c : Nat} {xs news : List Value} (hs : slOf P t = some (e, sz, by', zs)) (hz : zs.length = sz) (hsz : 0 < sz) (hx : CellsAt X w ad xs) (hxl : xs.length = n * sz) (hcap : cap = n) (hm : 0 < m)
    (hl : news.length = m * sz) (hsrc : SrcAt w ad2 news) (h63 : n + m ≤ 9223372036854775807) (hbytes : (n + m) * by' ≤ 140737488355328) :
    ∃ cap' w', (Builtin.append_ #[t, t] ty #[.slice ad n cap, .slice ad2 m c]).run P w = .ok (.slice (some ⟨w.heap.size, 0, none⟩) (n + m) cap') w' ∧ Below w.heap.size w w' ∧ (osl (some ⟨w.heap.size, 0, none⟩) (n + m) cap' e sz (xs ++ news)).holds w' := by
  have h63' : n + m ≤ maxLen := by simpa [maxLen] using h63
  obtain ⟨i, zv, hu, hi, hi1, hi2, hi3, hi4⟩ := slOf_spec hs
  have hzv : zv.cells.size = sz := by rw [← hz, ← hi4]; simp
  subst hcap
  have hpos : 0 < news.length := by rw [hl]; exact Nat.mul_pos (by omega) hsz
  obtain ⟨a, rfl, _⟩ := hsrc 0 _ (List.getElem?_eq_getElem hpos)
  have hnews : ∀ j u, news[j]? = some u → w.cell? (a.add j) = some u := fun j u hj => by
    obtain ⟨a', he, hc⟩ := hsrc j u hj
    obtain rfl : a = a' := by simpa using he
    exact hc
  have hgr := osl_grown (w := w) (e := e) (n := cap) (m := m) (old := cap) (xs := xs) (news := news) hzv hxl hl h63'
  have hbl : ∀ (o : Obj), Below w.heap.size w (w.drew.alloc o) := fun o => ((Below.refl _ _).drew).alloc (by simp) o
  cases had : ad with
  | none =>
    have hx0 : xs = [] := by
      cases hxs : xs with
      | nil => rfl
      | cons v l => obtain ⟨b, o, he, _⟩ := hx 0 v (by rw [hxs]; rfl); rw [had] at he; cases he
    subst hx0
    have hc0 : cap = 0 := by
      have h0 : cap * sz = 0 := by simpa using hxl.symm
      rcases Nat.mul_eq_zero.1 h0 with h | h
      · exact h
      · omega
    subst hc0
    have hr := run_append_nil (P := P) w t ty e i zv hu hi hi3 a m c news (by rw [hi1]; exact hl) hnews (by omega) (by omega) (by rw [hi2]; simp at hbytes; omega)
    simp only [Nat.zero_add, List.nil_append, Array.empty_append] at hgr ⊢
    exact ⟨_, _, hr, hbl _, hgr⟩
  | some b =>
    have holds : ∀ j u, xs[j]? = some u → w.cell? (b.add j) = some u := fun j u hj => by
      obtain ⟨a', he, hc⟩ := hx.some hj
      rw [had] at he
      obtain rfl : b = a' := by simpa using he
      exact hc
    have hr := run_append_grow (P := P) w t ty e i zv hu hi hi3 b cap cap xs (by rw [hi1]; exact hxl) holds a m c news (by rw [hi1]; exact hl) hnews (by omega) (by omega) (growslice_fits (by omega) (by rw [hi2]; exact hbytes))
    exact ⟨_, _, hr, hbl _, hgr⟩
end
section
variable {P : Program} {Q : Exit → Act → World → Prop} {w0 : Ctx} {σ σ' : List Res} {φ φ' : List (Bool × VP)} {fr : Fr} {ops : Array Oper} {rest : List Oper}
  {d : Nat} {ty : TypeId} {pos : String} {aft : Array Edge}
theorem JL_appendN {t e : TypeId} {sz by' : Nat} {zs : List Value} {x y : Operand} {ad ad2 : Option Addr} {n cap m c : Nat} {xs news : List Value} (hs : slOf P t = some (e, sz, by', zs)) (hz : zs.length = sz) (hsz : 0 < sz)
    (hx : Ev fr x (.slice ad n cap)) (hy : Ev fr y (.slice ad2 m c)) (hv : Reads w0 σ φ ad xs) (hxl : xs.length = n * sz) (hcap : cap = n) (hm : 0 < m) (hl : news.length = m * sz) (hr : Reads w0 σ φ ad2 news)
    (h63 : n + m ≤ 9223372036854775807) (hbytes : (n + m) * by' ≤ 140737488355328)
    (k : ∀ ad' cap', JL P ops Q w0 (σ ++ [osl ad' (n + m) cap' e sz (xs ++ news)]) φ rest (upd fr d (.slice ad' (n + m) cap'))) :
    JL P ops Q w0 σ φ (⟨some d, .call { callee := .builtin .append, args := #[x, y], argTypes := #[t, t] }, ty, pos, aft, none⟩ :: rest) fr := by
  intro w s
  obtain ⟨X, hc⟩ := hr w s
  obtain ⟨X', hvw⟩ := hv w s
  obtain ⟨cap', w', hrun, hbel, hown⟩ := run_append_own (ty := ty) (c := c) hs hz hsz hvw hxl hcap hm hl hc.src h63 hbytes
  refine wpList_run rfl rfl (by rw [exec_append hx hy, hrun]; rfl) (k _ cap' w' ?_)
  refine s.addRes _ hbel hown fun k hk => ?_
  simp only [osl, Value.ownBlock, Option.some.injEq] at hk
  omega
/-! ### Shifts and bits -/
theorem JL_shr_to {t t' : TypeId} {x y : Operand} {k k2 : IntKind} {a b c : Int} (hx : Ev fr x (.int k a)) (hy : Ev fr y (.int k2 b)) (hb : 0 ≤ b) (hc : a.fdiv (2 ^ (min b.toNat k.bits)) = c) (n : JL P ops Q w0 σ φ rest (upd fr d (.int k c))) :
    JL P ops Q w0 σ φ (⟨some d, .binOp .shr t x y t', ty, pos, aft, none⟩ :: rest) fr :=
  JL_pure _ (fun w => by
    have hb' : ¬ b < 0 := by omega
    simp [execOp, hx.eq, hy.eq, binOp, eqGuard, Op.shift, hb', hc]) n
/-! ### Arrays in boxes -/
end
/-! ### A field of a value -/
section
variable {P : Program} {Q : Exit → Act → World → Prop} {w0 : Ctx} {σ σ' : List Res} {φ φ' : List (Bool × VP)} {fr : Fr} {ops : Array Oper} {rest : List Oper}
  {d : Nat} {ty : TypeId} {pos : String} {aft : Array Edge}
end
/-! ## Numbers as sets of bits -/
theorem shr_nat (k : IntKind) (a v : Nat) (hv : v ≤ k.bits) : (a : Int).fdiv (2 ^ (min ((v : Nat) : Int).toNat k.bits)) = ((a >>> v : Nat) : Int) := by
  rw [Int.toNat_natCast, Nat.min_eq_left hv, Nat.shiftRight_eq_div_pow]
  rw [Int.fdiv_eq_ediv_of_nonneg _ (Int.le_of_lt (Int.pow_pos (by decide)))]
  push_cast; rfl
end Go.Fw

/- The program logic: functions that are handed own slices beside data that is not fresh. -/
namespace Go.Fw
open Go Go.RowKit
def ConQ (P : Program) (f : FuncId) (args : List Value) (rin : List Res) (φin : List VP) (Post : Value → List Res → List VP → Prop) : Prop :=
  ∀ (w0 : Ctx) (p0 p1 : VP) (w : World), St w0 w rin (φin.map (fun p => (false, p)) ++ [(false, p0), (true, p1)]) → Calls P f args.toArray w (PostO w0 p0 p1 Post)
theorem ConQ_of {P : Program} {f : FuncId} {fn : Func} {c : Code} {args : List Value} {rin : List Res} {φin : List VP} {Post : Value → List Res → List VP → Prop}
    (hf : P.funcs[f]? = some fn) (hb : fn.body = some c) (n : Nat) (b : List Value) (hfr : args ++ List.replicate (fn.ntmps - args.length) undef = b) (hn : b.length = n)
    (h : ∀ w0 p0 p1, JC P c (bodyPost P fn (PostO w0 p0 p1 Post)) w0 rin (φin.map (fun p => (false, p)) ++ [(false, p0), (true, p1)]) ⟨n, [], b⟩) : ConQ P f args rin φin Post := by
  intro w0 p0 p1 w s
  refine calls_of_wp hf hb ?_
  have he : (⟨args.toArray ++ Array.replicate (fn.ntmps - args.toArray.size) undef, []⟩ : Act) = act ⟨n, [], b⟩ := by
    rw [← hn, act_start, ← hfr]; simp
  rw [he]
  exact h w0 p0 p1 w s
section
variable {P : Program} {Q : Exit → Act → World → Prop} {w0 : Ctx} {σ : List Res} {φ : List (Bool × VP)} {fr : Fr} {ops : Array Oper} {rest : List Oper}
  {d : Nat} {ty : TypeId} {pos : String} {aft : Array Edge}
def AsksQ (w0 : Ctx) (σ : List Res) (φ : List (Bool × VP)) (φin : List VP) : Prop := ∀ w, St w0 w σ φ → ∀ p ∈ φin, p.holds (Xof w0 σ false) w
theorem AsksQ.nil : AsksQ w0 σ φ [] := fun _ _ p hp => by cases hp
theorem AsksQ.cons {p : VP} {ps : List VP} (h : ∀ w, St w0 w σ φ → p.holds (Xof w0 σ false) w) (h' : AsksQ w0 σ φ ps) : AsksQ w0 σ φ (p :: ps) := fun w s q hq => by
  rcases List.mem_cons.1 hq with rfl | hq
  · exact h w s
  · exact h' w s q hq
/-- A call that takes all own resources. -/
theorem JL_callQ {f : FuncId} {x : Operand} {xs : List Operand} {ts : Array TypeId} {vs : List Value} {φin : List VP} {Post : Value → List Res → List VP → Prop} (hin : AsksQ w0 σ φ φin) (con : ConQ P f vs σ φin Post) (hf : Ev fr x (.func (.func f) #[] #[])) (hc : callable P f = true) (ha : EvL fr xs vs)
    (k : ∀ v rout φo, Post v rout φo → JL P ops Q w0 rout (mapB true φo φ) rest (upd fr d v)) :
    JL P ops Q w0 σ φ (⟨some d, .call { callee := .value x, args := xs.toArray, argTypes := ts }, ty, pos, aft, none⟩ :: rest) fr := by
  intro w s
  have hs : St w0 w σ (φin.map (fun p => (false, p)) ++ [(false, vList ((φ.filter (fun q => !q.1)).map (·.2))), (true, vList ((φ.filter (fun q => q.1)).map (·.2)))]) := by
    refine ⟨s.base, s.own, s.fresh, s.dist, fun p hp => ?_⟩
    rcases List.mem_append.1 hp with hp | hp
    · obtain ⟨q, hq, rfl⟩ := List.mem_map.1 hp; exact hin w s q hq
    · simp only [List.mem_cons, List.not_mem_nil, or_false] at hp
      rcases hp with rfl | rfl
      · intro p hp
        obtain ⟨⟨b, q⟩, hq, rfl⟩ := List.mem_map.1 hp
        obtain ⟨h1, h2⟩ := List.mem_filter.1 hq
        cases b with
        | false => exact s.views _ h1
        | true => simp at h2
      · intro p hp
        obtain ⟨⟨b, q⟩, hq, rfl⟩ := List.mem_map.1 hp
        obtain ⟨h1, h2⟩ := List.mem_filter.1 hq
        cases b with
        | true => exact s.views _ h1
        | false => simp at h2
  refine wpList_call hf hc ha (con w0 _ _ w hs) ?_
  rintro e w' ⟨v, rout, φo, rfl, hP, s'⟩
  refine ⟨v, rfl, k v rout φo hP w' ⟨s'.base, s'.own, s'.fresh, s'.dist, fun p hp => ?_⟩⟩
  rw [mapB_eq] at hp
  rcases List.mem_append.1 hp with hp | hp
  · exact s'.views p (List.mem_append_left _ hp)
  · obtain ⟨b, q⟩ := p
    cases b with
    | false =>
      have := s'.views _ (List.mem_append_right _ List.mem_cons_self)
      exact this q (List.mem_map.2 ⟨_, List.mem_filter.2 ⟨hp, rfl⟩, rfl⟩)
    | true =>
      have := s'.views _ (List.mem_append_right _ (List.mem_cons_of_mem _ List.mem_cons_self))
      exact this q (List.mem_map.2 ⟨_, List.mem_filter.2 ⟨hp, rfl⟩, rfl⟩)
end
end Go.Fw

/- The program logic: a call that is handed the last own slice, beside other resources. -/
namespace Go.Fw
open Go Go.RowKit
section
variable {P : Program} {Q : Exit → Act → World → Prop} {w0 : Ctx} {σ σ' : List Res} {φ φ' : List (Bool × VP)} {fr : Fr} {ops : Array Oper} {rest : List Oper}
  {d : Nat} {ty : TypeId} {pos : String} {aft : Array Edge}
end
end Go.Fw
