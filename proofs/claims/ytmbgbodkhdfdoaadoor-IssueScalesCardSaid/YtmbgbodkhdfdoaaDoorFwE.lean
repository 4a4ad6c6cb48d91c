/- The program logic's rules for append, for calls, and for the end of a function. -/
import Derived.Test.YtmbgbodkhdfdoaaDoorFwD
namespace Go.Fw
open Go Go.RowKit

def SrcAt (w : World) (ad : Option Addr) (news : List Value) : Prop := ∀ (j : Nat) (u : Value), news[j]? = some u → ∃ a, ad = some a ∧ w.cell? (a.add j) = some u
theorem CellsAt.src {X : Nat → Prop} {w : World} {ad : Option Addr} {xs : List Value} (h : CellsAt X w ad xs) : SrcAt w ad xs := fun _ _ hj => h.some hj

section
variable {P : Program} {w : World} {t ty e : TypeId} {sz by' : Nat} {zs : List Value}
theorem run_append_zero {ad2 ad : Option Addr} {n cap c : Nat} (hs : slOf P t = some (e, sz, by', zs)) (hn : n ≤ cap) : (Builtin.append_ #[t, t] ty #[.slice ad n cap, .slice ad2 0 c]).run P w = .ok (.slice ad n cap) w := by
  obtain ⟨i, zv, hu, hi, h1, h2, h3, h4⟩ := slOf_spec hs
  cases ad <;> cases ad2 <;> simp [Builtin.append_, run_underlying hu, sizeOf, typeInfo, hi, Builtin.lenOf, hn, Builtin.firstCells, loadCells, loadCellsFrom, storeCells]
theorem size_zc (z : Array Value) (n : Nat) : (Builtin.zeroCells z n).size = n * z.size := by simp [Builtin.zeroCells]
/-- A new block holds what was and what is appended. -/
theorem osl_grown {zv : Value} {n m old : Nat} {xs news : List Value} (hzs : zv.cells.size = sz) (hx : xs.length = n * sz) (hl : news.length = m * sz) (h63 : n + m ≤ maxLen) :
    (osl (some ⟨w.heap.size, 0, none⟩) (n + m) (grownCap w (n + m) old e) e sz (xs ++ news)).holds
      (w.drew.alloc (.cells (xs.toArray ++ news.toArray ++ Builtin.zeroCells zv.cells (grownCap w (n + m) old e - (n + m))) e)) := by
  have hge := grownCap_ge w (n + m) old e
  have hcm : grownCap w (n + m) old e ≤ maxLen := grownCap_le_maxLen w (n + m) old e h63
  have hlen : (xs ++ news).length = (n + m) * sz := by rw [List.length_append, hx, hl, Nat.add_mul]
  refine ⟨hlen, .inr ⟨w.heap.size, _, _, rfl, Nat.zero_le _, heap_alloc_new w.drew _, hge, hcm, ?_, ?_⟩⟩
  · simp only [Array.size_append, List.size_toArray, size_zc, hzs, hx, hl, ← Nat.add_mul]
    congr 1
    omega
  · simp only [Array.toList_append]
    rw [← hlen]
    exact List.take_left
theorem run_append_res {ad ad2 : Option Addr} {n cap m c : Nat} {xs news : List Value} (hs : slOf P t = some (e, sz, by', zs)) (hz : zs.length = sz) (hsz : 0 < sz) (hown : (osl ad n cap e sz xs).holds w)
    (hl : news.length = m * sz) (hsrc : SrcAt w ad2 news) (h1 : AllOne news) (h63 : n + m ≤ 9223372036854775807) (hbytes : (n + m) * by' ≤ 140737488355328) :
    ∃ ad' cap' w', (Builtin.append_ #[t, t] ty #[.slice ad n cap, .slice ad2 m c]).run P w = .ok (.slice ad' (n + m) cap') w' ∧ (osl ad' (n + m) cap' e sz (xs ++ news)).holds w' ∧
      w.grownBy w' (osl ad n cap e sz xs).key ∧ ∀ k, (osl ad' (n + m) cap' e sz (xs ++ news)).key = some k → (osl ad n cap e sz xs).key = some k ∨ w.heap.size ≤ k := by
  have h63' : n + m ≤ maxLen := by simpa [maxLen] using h63
  obtain ⟨i, zv, hu, hi, hi1, hi2, hi3, hi4⟩ := slOf_spec hs
  have hzv : zv.cells.size = sz := by rw [← hz, ← hi4]; simp
  have hnc : n ≤ cap := by
    rcases hown.2 with ⟨hv, hn⟩ | ⟨g, cap', cur, hv, _, _, hnc, _⟩
    · omega
    · simp only [Value.slice.injEq] at hv; omega
  by_cases hm : m = 0
  · subst hm
    obtain rfl : news = [] := List.eq_nil_of_length_eq_zero (by omega)
    refine ⟨ad, cap, w, run_append_zero hs hnc, by simpa using hown, ⟨rfl, rfl, rfl, Nat.le_refl _, fun _ _ _ => rfl⟩, fun k hk => .inl (by simpa [osl] using hk)⟩
  · have hpos : 0 < news.length := by rw [hl]; exact Nat.mul_pos (by omega) hsz
    obtain ⟨a, rfl, _⟩ := hsrc 0 _ (List.getElem?_eq_getElem hpos)
    have hnews : ∀ j u, news[j]? = some u → w.cell? (a.add j) = some u := fun j u hj => by
      obtain ⟨a', he, hc⟩ := hsrc j u hj
      obtain rfl : a = a' := by simpa using he
      exact hc
    have fresh : ∀ (row : Option Nat) (o : Obj), w.grownBy (w.drew.alloc o) row := fun row o => ⟨rfl, rfl, rfl, by simp, fun k hk _ => Below.heap_alloc w.drew o k hk⟩
    rcases hown.2 with ⟨hv, hn⟩ | ⟨g, cap', cur, hv, hb, hgg, _, hcm, hcs, htake⟩
    · simp only [Value.slice.injEq] at hv
      obtain ⟨rfl, rfl, rfl⟩ := hv
      obtain rfl : xs = [] := List.eq_nil_of_length_eq_zero (by have := hown.1; simpa using this)
      have hr := run_append_nil (P := P) w t ty e i zv hu hi hi3 a m c news (by rw [hi1]; exact hl) hnews (by omega) (by omega) (by rw [hi2]; simp at hbytes; omega)
      have hgr := osl_grown (w := w) (e := e) (n := 0) (m := m) (old := 0) (xs := []) (news := news) hzv (by simp) hl h63'
      simp only [Nat.zero_add, List.nil_append, Array.empty_append] at hgr ⊢
      exact ⟨_, _, _, hr, hgr, fresh _ _, fun k hk => .inr (by simp [osl, Value.ownBlock] at hk; omega)⟩
    · have hv' := hv
      simp only [Value.slice.injEq] at hv
      obtain ⟨rfl, _, rfl⟩ := hv
      by_cases hroom : n + m ≤ cap
      · have hfit : n * i.size + news.length ≤ cur.size := by rw [hi1, hl, hcs, ← Nat.add_mul]; exact Nat.mul_le_mul_right _ hroom
        have hr := run_append_room (P := P) w t ty e i hu hi g n cap cur hgg a m c news (by rw [hi1]; exact hl) hnews h1 hroom hfit
        refine ⟨_, _, _, hr, ⟨by rw [List.length_append, hown.1, hl, Nat.add_mul], .inr ⟨g, cap, _, rfl, Nat.zero_le _, setRow_heap w g cur _ e _ hgg, hroom, hcm, ?_, ?_⟩⟩,
          ⟨rfl, rfl, rfl, by simp, fun k _ hk => setRow_other w g k _ (fun e => hk (by simp [osl, Value.ownBlock, e]))⟩, fun k hk => .inl hk⟩
        · simp only [List.size_toArray, List.length_append, List.length_take, List.length_drop, Array.length_toList]
          rw [hcs] at hfit ⊢
          omega
        · rw [hi1, htake]
          have hlen : (xs ++ news).length = (n + m) * sz := by rw [List.length_append, hown.1, hl, Nat.add_mul]
          rw [← hlen]
          exact List.take_left
      · have holds : ∀ j u, xs[j]? = some u → w.cell? ((⟨g, 0, none⟩ : Addr).add j) = some u := fun j u hj => by
          obtain ⟨a', he, hc⟩ := (own_cells hown).some hj
          obtain rfl : (⟨g, 0, none⟩ : Addr) = a' := by simpa using he
          exact hc
        have hr := run_append_grow (P := P) w t ty e i zv hu hi hi3 ⟨g, 0, none⟩ n cap xs (by rw [hi1]; exact hown.1) holds a m c news (by rw [hi1]; exact hl) hnews (by omega) (by omega) (growslice_fits (by omega) (by rw [hi2]; exact hbytes))
        exact ⟨_, _, _, hr, osl_grown (w := w) (e := e) hzv hown.1 hl h63', fresh _ _, fun k hk => .inr (by simp [osl, Value.ownBlock] at hk; omega)⟩
/-- Append onto immutable data without spare room: a new block, or nothing to append. -/
theorem run_append_full {X : Nat → Prop} {ad ad2 : Option Addr} {n cap m c : Nat} {xs news : List Value} (hs : slOf P t = some (e, sz, by', zs)) (hz : zs.length = sz) (hsz : 0 < sz) (hx : CellsAt X w ad xs) (hxl : xs.length = n * sz) (hcap : cap = n)
    (hl : news.length = m * sz) (hsrc : SrcAt w ad2 news) (h63 : n + m ≤ 9223372036854775807) (hbytes : (n + m) * by' ≤ 140737488355328) :
    ∃ ad' cap' w', (Builtin.append_ #[t, t] ty #[.slice ad n cap, .slice ad2 m c]).run P w = .ok (.slice ad' (n + m) cap') w' ∧ n + m ≤ cap' ∧ cap' ≤ 9223372036854775807 ∧ Below w.heap.size w w' ∧
      ((m = 0 ∧ w' = w ∧ ad' = ad) ∨ CellsAt (fun k => k < w.heap.size) w' ad' (xs ++ news)) := by
  have h63' : n + m ≤ maxLen := by simpa [maxLen] using h63
  obtain ⟨i, zv, hu, hi, hi1, hi2, hi3, hi4⟩ := slOf_spec hs
  have hzv : zv.cells.size = sz := by rw [← hz, ← hi4]; simp
  subst hcap
  by_cases hm : m = 0
  · subst hm
    exact ⟨ad, cap, w, run_append_zero hs (Nat.le_refl _), by simp, by omega, Below.refl _ _, .inl ⟨rfl, rfl, rfl⟩⟩
  · have hpos : 0 < news.length := by rw [hl]; exact Nat.mul_pos (by omega) hsz
    obtain ⟨a, rfl, _⟩ := hsrc 0 _ (List.getElem?_eq_getElem hpos)
    have hnews : ∀ j u, news[j]? = some u → w.cell? (a.add j) = some u := fun j u hj => by
      obtain ⟨a', he, hc⟩ := hsrc j u hj
      obtain rfl : a = a' := by simpa using he
      exact hc
    have hgr := osl_grown (w := w) (e := e) (n := cap) (m := m) (old := cap) (xs := xs) (news := news) hzv hxl hl h63'
    have hbl : ∀ (o : Obj), Below w.heap.size w (w.drew.alloc o) := fun o => ((Below.refl _ _).drew).alloc (by simp) o
    have hge := grownCap_ge w (cap + m) cap e
    have hcm : grownCap w (cap + m) cap e ≤ maxLen := grownCap_le_maxLen w (cap + m) cap e h63'
    have hfin : ∀ {w' : World} {c' : Nat}, (osl (some ⟨w.heap.size, 0, none⟩) (cap + m) c' e sz (xs ++ news)).holds w' → CellsAt (fun k => k < w.heap.size) w' (some ⟨w.heap.size, 0, none⟩) (xs ++ news) := by
      intro w' c' h j u hj
      obtain ⟨b, o, he, _, hc⟩ := own_cells h j u hj
      simp at he
      obtain ⟨rfl, rfl⟩ := he
      exact ⟨_, 0, rfl, by omega, hc⟩
    cases had : ad with
    | none =>
      have hx0 : xs = [] := by
        cases hxs : xs with
        | nil => rfl
        | cons v l => obtain ⟨b, o, he, _⟩ := hx 0 v (by rw [hxs]; rfl); rw [had] at he; cases he
      subst hx0
      have hc0 : cap = 0 := by
        have h0 : cap * sz = 0 := by simpa using hxl.symm
        rcases Nat.mul_eq_zero.1 h0 with h | h
        · exact h
        · omega
      subst hc0
      have hr := run_append_nil (P := P) w t ty e i zv hu hi hi3 a m c news (by rw [hi1]; exact hl) hnews (by omega) (by omega) (by rw [hi2]; simp at hbytes; omega)
      simp only [Nat.zero_add, List.nil_append, Array.empty_append] at hgr hge hcm hfin ⊢
      exact ⟨_, _, _, hr, hge, by simpa [maxLen] using hcm, hbl _, .inr (hfin hgr)⟩
    | some b =>
      have holds : ∀ j u, xs[j]? = some u → w.cell? (b.add j) = some u := fun j u hj => by
        obtain ⟨a', he, hc⟩ := hx.some hj
        rw [had] at he
        obtain rfl : b = a' := by simpa using he
        exact hc
      have hr := run_append_grow (P := P) w t ty e i zv hu hi hi3 b cap cap xs (by rw [hi1]; exact hxl) holds a m c news (by rw [hi1]; exact hl) hnews (by omega) (by omega) (growslice_fits (by omega) (by rw [hi2]; exact hbytes))
      exact ⟨_, _, _, hr, hge, by simpa [maxLen] using hcm, hbl _, .inr (hfin hgr)⟩
end

section
variable {P : Program} {Q : Exit → Act → World → Prop} {w0 : Ctx} {σ σ' : List Res} {φ φ' : List (Bool × VP)} {fr : Fr} {ops : Array Oper} {rest : List Oper}
  {d : Nat} {ty : TypeId} {pos : String} {aft : Array Edge}
theorem exec_append {t : TypeId} {x y : Operand} {u v : Value} (hx : Ev fr x u) (hy : Ev fr y v) (w : World) :
    (execOp (ev fr) ⟨some d, .call { callee := .builtin .append, args := #[x, y], argTypes := #[t, t] }, ty, pos, aft, none⟩).run P w = ((Builtin.append_ #[t, t] ty #[u, v]).run P w).andThen fun a w' => .ok (.value a) w' := by
  simp [execOp, resolve, invoke, builtin, hx.eq, hy.eq]
theorem osl_cap {w : World} {ad : Option Addr} {n cap sz : Nat} {E : TypeId} {xs : List Value} (h : (osl ad n cap E sz xs).holds w) : n ≤ cap ∧ cap ≤ 9223372036854775807 := by
  rcases h.2 with ⟨hv, hn⟩ | ⟨g, cap', cur, hv, _, _, h1, h2, _⟩
  · simp only [Value.slice.injEq] at hv; omega
  · simp only [Value.slice.injEq] at hv
    simp only [maxLen] at h2
    omega
theorem JL_append {t e : TypeId} {sz by' : Nat} {zs : List Value} {x y : Operand} {ad ad2 : Option Addr} {n cap m c : Nat} {xs news : List Value} (i : Nat) (hs : slOf P t = some (e, sz, by', zs)) (hz : zs.length = sz) (hsz : 0 < sz)
    (hx : Ev fr x (.slice ad n cap)) (hy : Ev fr y (.slice ad2 m c)) (hσ : Nth σ i (osl ad n cap e sz xs)) (hl : news.length = m * sz) (hr : Reads w0 σ φ ad2 news) (h1 : AllOne news)
    (h63 : n + m ≤ 9223372036854775807) (hbytes : (n + m) * by' ≤ 140737488355328)
    (k : ∀ ad' cap', n + m ≤ cap' ∧ cap' ≤ 9223372036854775807 → JL P ops Q w0 (updL σ i (osl ad' (n + m) cap' e sz (xs ++ news))) φ rest (upd fr d (.slice ad' (n + m) cap'))) :
    JL P ops Q w0 σ φ (⟨some d, .call { callee := .builtin .append, args := #[x, y], argTypes := #[t, t] }, ty, pos, aft, none⟩ :: rest) fr := by
  intro w s
  obtain ⟨X, hc⟩ := hr w s
  obtain ⟨ad', cap', w', hrun, hown, hg, hkey⟩ := run_append_res (ty := ty) (c := c) hs hz hsz (s.own _ hσ.mem) hl hc.src h1 h63 hbytes
  refine wpList_run rfl rfl (by rw [exec_append hx hy, hrun]; rfl) (k ad' cap' (osl_cap hown) w' ?_)
  rw [updL_set]
  exact s.setRes i _ _ hσ.get hg.size hg.os hg.tape hg.output (fun k hk hne => hg.block k hk (fun e => hne e.symm)) hown hkey
/-- The first append onto a nil slice: it becomes an own resource. -/
theorem St.addNil {w : World} (s : St w0 w σ φ) (E : TypeId) (sz : Nat) : St w0 w (σ ++ [osl none 0 0 E sz []]) φ :=
  s.addRes _ (Below.refl _ _) (World.ownsRow_nil _ _ _ _) (fun k hk => by simp [osl, Value.ownBlock] at hk)
theorem JL_addNil {l : List Oper} (E : TypeId) (sz : Nat) (k : JL P ops Q w0 (σ ++ [osl none 0 0 E sz []]) φ l fr) : JL P ops Q w0 σ φ l fr := JL_conv (fun _ s => s.addNil E sz) k
theorem JC_addNil {c : Code} (E : TypeId) (sz : Nat) (k : JC P c Q w0 (σ ++ [osl none 0 0 E sz []]) φ fr) : JC P c Q w0 σ φ fr := JC_conv (fun _ s => s.addNil E sz) k
theorem JL_appendV {t e : TypeId} {sz by' : Nat} {zs : List Value} {x y : Operand} {f : Bool} {ad ad2 : Option Addr} {n cap m c : Nat} {xs news : List Value} (hs : slOf P t = some (e, sz, by', zs)) (hz : zs.length = sz) (hsz : 0 < sz)
    (hx : Ev fr x (.slice ad n cap)) (hy : Ev fr y (.slice ad2 m c)) (hv : (f, vCells ad xs) ∈ φ) (hxl : xs.length = n * sz) (hcap : cap = n) (hl : news.length = m * sz) (hr : Reads w0 σ φ ad2 news)
    (h63 : n + m ≤ 9223372036854775807) (hbytes : (n + m) * by' ≤ 140737488355328)
    (k : ∀ ad' cap', n + m ≤ cap' ∧ cap' ≤ 9223372036854775807 → JL P ops Q w0 σ ((f, vCells ad' (xs ++ news)) :: φ) rest (upd fr d (.slice ad' (n + m) cap'))) :
    JL P ops Q w0 σ φ (⟨some d, .call { callee := .builtin .append, args := #[x, y], argTypes := #[t, t] }, ty, pos, aft, none⟩ :: rest) fr := by
  intro w s
  obtain ⟨X, hc⟩ := hr w s
  have hvw : CellsAt (Xof w0 σ f) w ad xs := s.views _ hv
  obtain ⟨ad', cap', w', hrun, hle, hle2, hbel, hor⟩ := run_append_full (ty := ty) (c := c) hs hz hsz hvw hxl hcap hl hc.src h63 hbytes
  refine wpList_run rfl rfl (by rw [exec_append hx hy, hrun]; rfl) (k ad' cap' ⟨hle, hle2⟩ w' ?_)
  refine (s.ext hbel).addView ?_
  rcases hor with ⟨rfl, rfl, rfl⟩ | hcells
  · have : news = [] := List.eq_nil_of_length_eq_zero (by simpa using hl)
    subst this
    show CellsAt _ _ _ _
    simpa using hvw
  · refine hcells.mono (fun _ _ _ => rfl) ?_
    intro b hb hX
    rcases hX with ⟨r, hr, hrk⟩ | ⟨_, hlt⟩
    · exact r.lt w (s.own r hr) b hrk
    · exact Nat.lt_of_lt_of_le (w0.hY _ hlt) s.base.size

/-! ### Calls -/
theorem run_callFunc {f : FuncId} {args : Array Value} (hc : callable P f = true) (w : World) : (callFunc f args).run P w = .ok (.enter f args) w := by
  unfold callable at hc
  split at hc
  · rename_i fn hf
    simp only [Bool.and_eq_true, Bool.not_eq_true'] at hc
    have hb : fn.body.isNone = false := by cases h : fn.body <;> simp [h] at hc ⊢
    simp only [callFunc, Sem.run_bind, run_program, Result.andThen_ok, hf, hc.2, Bool.false_eq_true, if_false, hb, Sem.run_pure]
  · cases hc
theorem exec_call {f : FuncId} {x : Operand} {xs : List Operand} {ts : Array TypeId} {vs : List Value} {dst : Option Nat} (hf : Ev fr x (.func (.func f) #[] #[])) (hc : callable P f = true) (ha : xs.map (ev fr) = vs) (w : World) :
    (execOp (ev fr) ⟨dst, .call { callee := .value x, args := xs.toArray, argTypes := ts }, ty, pos, aft, none⟩).run P w = .ok (.enter f vs.toArray) w := by
  subst ha
  simp [execOp, resolve, hf.eq, Deferred.ofValue, invoke, run_callFunc hc]
def EvL (fr : Fr) : List Operand → List Value → Prop
  | [], l => l = []
  | x :: xs, l => match l with
    | [] => False
    | v :: vs => Ev fr x v ∧ EvL fr xs vs
theorem EvL.eq {fr : Fr} : ∀ {xs : List Operand} {vs : List Value}, EvL fr xs vs → xs.map (ev fr) = vs
  | [], _, h => by rw [show _ = _ from h]; rfl
  | x :: xs, [], h => h.elim
  | x :: xs, v :: vs, h => by rw [List.map_cons, h.1.eq, EvL.eq h.2]
theorem wpList_call {f : FuncId} {x : Operand} {xs : List Operand} {ts : Array TypeId} {vs : List Value} {w : World} {R : Ending → World → Prop} (hf : Ev fr x (.func (.func f) #[] #[])) (hc : callable P f = true) (ha : EvL fr xs vs)
    (con : Calls P f vs.toArray w R) (hR : ∀ e w', R e w' → ∃ v, e = .returned v ∧ wpList P ops Q rest (act (upd fr d v)) w') :
    wpList P ops Q (⟨some d, .call { callee := .value x, args := xs.toArray, argTypes := ts }, ty, pos, aft, none⟩ :: rest) (act fr) w := by
  refine wpList_plain rfl fun K hK => ?_
  unfold Oper.wp
  rw [act_eval_fun, exec_call hf hc ha.eq]
  refine con.mono ?_
  intro e w' hr
  obtain ⟨v, rfl, h⟩ := hR e w' hr
  show K ((act fr).put (some d) v) w'
  rw [act_put]
  exact hK _ _ h
/-- What a contract asks, out of the state. -/
def Asks (w0 : Ctx) (σ : List Res) (φ : List (Bool × VP)) (φin : List VP) : Prop := ∀ w, St w0 w σ φ → ∀ p ∈ φin, p.holds (fun _ => False) w
theorem Asks.nil : Asks w0 σ φ [] := fun _ _ p hp => by cases hp
theorem Asks.cons {p : VP} {ps : List VP} (h : ∀ w, St w0 w σ φ → p.holds (fun _ => False) w) (h' : Asks w0 σ φ ps) : Asks w0 σ φ (p :: ps) := fun w s q hq => by
  rcases List.mem_cons.1 hq with rfl | hq
  · exact h w s
  · exact h' w s q hq
theorem holds_of_mem {p : VP} {f : Bool} (h : (f, p) ∈ φ) : ∀ w, St w0 w σ φ → p.holds (fun _ => False) w :=
  fun w s => p.mono _ _ w w (s.views _ h) (Nat.le_refl _) (fun _ _ _ => rfl) (fun _ _ h => h.elim)
theorem holds_of_own {ad : Option Addr} {n cap sz : Nat} {E : TypeId} {xs : List Value} (i : Nat) (h : Nth σ i (osl ad n cap E sz xs)) : ∀ w, St w0 w σ φ → (vCells ad xs).holds (fun _ => False) w :=
  fun _ s => (own_cells (s.own _ h.mem)).mono (fun _ _ _ => rfl) (fun _ _ h => h.elim)
theorem JL_callF {f : FuncId} {x : Operand} {xs : List Operand} {ts : Array TypeId} {vs : List Value} {φin : List VP} {Post : Value → List VP → Prop} (con : ConF P f vs φin Post) (hf : Ev fr x (.func (.func f) #[] #[])) (hc : callable P f = true) (ha : EvL fr xs vs)
    (hin : Asks w0 σ φ φin) (k : ∀ v φo, Post v φo → JL P ops Q w0 σ (φo.map (fun p => (true, p)) ++ φ) rest (upd fr d v)) :
    JL P ops Q w0 σ φ (⟨some d, .call { callee := .value x, args := xs.toArray, argTypes := ts }, ty, pos, aft, none⟩ :: rest) fr := by
  intro w s
  refine wpList_call hf hc ha (con w (hin w s)) ?_
  rintro e w' ⟨v, φo, rfl, hP, hb, hv⟩
  refine ⟨v, rfl, k v φo hP w' ?_⟩
  have s' := s.ext hb
  refine ⟨s'.base, s'.own, s'.fresh, s'.dist, fun p hp => ?_⟩
  rcases List.mem_append.1 hp with hp | hp
  · obtain ⟨q, hq, rfl⟩ := List.mem_map.1 hp
    refine q.mono _ _ w' w' (hv q hq) (Nat.le_refl _) (fun _ _ _ => rfl) ?_
    intro b _ hX
    rcases hX with ⟨r, hr, hrk⟩ | ⟨_, hlt⟩
    · exact r.lt w (s.own r hr) b hrk
    · exact Nat.lt_of_lt_of_le (w0.hY _ hlt) s.base.size
  · exact s'.views p hp
/-- What a sharing contract asks: views that avoid X, all fresh or not. -/
def AsksA (w0 : Ctx) (σ : List Res) (φ : List (Bool × VP)) (b : Bool) (φin : List VP) : Prop := ∀ w, St w0 w σ φ → ∀ p ∈ φin, p.holds (Xof w0 σ b) w
theorem AsksA.nil {b : Bool} : AsksA w0 σ φ b [] := fun _ _ p hp => by cases hp
theorem AsksA.cons {b : Bool} {p : VP} {ps : List VP} (h : ∀ w, St w0 w σ φ → p.holds (Xof w0 σ b) w) (h' : AsksA w0 σ φ b ps) : AsksA w0 σ φ b (p :: ps) := fun w s q hq => by
  rcases List.mem_cons.1 hq with rfl | hq
  · exact h w s
  · exact h' w s q hq
theorem holdsA_of_mem {p : VP} {b : Bool} (h : (b, p) ∈ φ) : ∀ w, St w0 w σ φ → p.holds (Xof w0 σ b) w := fun _ s => s.views _ h
theorem holdsA_of_fresh {p : VP} (h : (true, p) ∈ φ) : ∀ w, St w0 w σ φ → p.holds (Xof w0 σ false) w := fun w s =>
  p.mono _ _ w w (s.views _ h) (Nat.le_refl _) (fun _ _ _ => rfl) (fun _ _ h => by
    rcases h with h | h
    · exact .inl h
    · exact absurd h.1 (by simp))
theorem JL_callA {f : FuncId} {x : Operand} {xs : List Operand} {ts : Array TypeId} {vs : List Value} {φin : List VP} {Post : Value → List VP → Prop} (b : Bool) (con : ConA P f vs φin Post) (hf : Ev fr x (.func (.func f) #[] #[])) (hc : callable P f = true) (ha : EvL fr xs vs)
    (hin : AsksA w0 σ φ b φin) (k : ∀ v φo, Post v φo → JL P ops Q w0 σ (φo.map (fun p => (b, p)) ++ φ) rest (upd fr d v)) :
    JL P ops Q w0 σ φ (⟨some d, .call { callee := .value x, args := xs.toArray, argTypes := ts }, ty, pos, aft, none⟩ :: rest) fr := by
  intro w s
  have hX : ∀ k, Xof w0 σ b k → k < w.heap.size := by
    intro k hk
    rcases hk with ⟨r, hr, hrk⟩ | ⟨_, hlt⟩
    · exact r.lt w (s.own r hr) k hrk
    · exact Nat.lt_of_lt_of_le (w0.hY _ hlt) s.base.size
  refine wpList_call hf hc ha (con w (Xof w0 σ b) hX (hin w s)) ?_
  rintro e w' ⟨v, φo, rfl, hP, hb, hv⟩
  refine ⟨v, rfl, k v φo hP w' ?_⟩
  have s' := s.ext hb
  refine ⟨s'.base, s'.own, s'.fresh, s'.dist, fun p hp => ?_⟩
  rcases List.mem_append.1 hp with hp | hp
  · obtain ⟨q, hq, rfl⟩ := List.mem_map.1 hp
    exact hv q hq
  · exact s'.views p hp

/-! ### The end -/
def RV (P : Program) (σ : List Res) (fr : Fr) : ResultVar → Value → Prop
  | .tmp t, v => Lk fr t v
  | .cell a T, v => ∃ b T' cs vs, tyOf P T = some (true, List.length vs) ∧ Lk fr a (.pointer (some ⟨b, 0, none⟩)) ∧ (∃ i, Nth σ i (box b T' cs)) ∧ NthL cs 0 vs ∧ v = .agg vs.toArray
theorem RV.cell {a T b : Nat} {T' : TypeId} {cs vs : List Value} (i : Nat) (hT : tyOf P T = some (true, vs.length)) (hl : Lk fr a (.pointer (some ⟨b, 0, none⟩))) (hσ : Nth σ i (box b T' cs)) (hv : NthL cs 0 vs) : RV P σ fr (.cell a T) (.agg vs.toArray) :=
  ⟨b, T', cs, vs, hT, hl, ⟨i, hσ⟩, hv, rfl⟩
def rvRun (tmps : Array Value) : ResultVar → Sem Value
  | .tmp t => pure (tmps.getD t undef)
  | .cell a t => do loadVar t (← asAddr (tmps.getD a undef))
theorem RV.run {r : ResultVar} {v : Value} {w : World} (h : RV P σ fr r v) (s : St w0 w σ φ) : (rvRun (act fr).tmps r).run P w = .ok v w := by
  cases r with
  | tmp t => simp only [rvRun, Sem.run_pure, look_getD, Lk.eq h]
  | cell a T =>
    obtain ⟨b, T', cs, vs, hT, hl, ⟨i, hσ⟩, hv, rfl⟩ := h
    have hcs : ∀ m u, vs[m]? = some u → w.cell? (Addr.add ⟨b, 0, none⟩ m) = some u := fun m u hm => by
      rw [add_lit', cell_box (s.own _ hσ.mem)]; exact hv.get m u hm
    simp only [rvRun, look_getD, Lk.eq hl, asAddr, Sem.run_bind, Sem.run_pure, Result.andThen_ok, run_loadVar_agg hT hcs]
def RVs (P : Program) (σ : List Res) (fr : Fr) : List ResultVar → List Value → Prop
  | [], vs => vs = []
  | r :: rs, vs => match vs with
    | [] => False
    | v :: l => RV P σ fr r v ∧ RVs P σ fr rs l
def retOf : List Value → Value
  | [v] => v
  | vs => .tuple vs.toArray
theorem RVs.run {w : World} (s : St w0 w σ φ) : ∀ {rs : List ResultVar} {vs : List Value}, RVs P σ fr rs vs → (rs.mapM (rvRun (act fr).tmps)).run P w = .ok vs w
  | [], vs, h => by rw [show vs = [] from h]; rfl
  | r :: rs, [], h => h.elim
  | r :: rs, v :: vs, h => by
    rw [List.mapM_cons]
    simp only [Sem.run_bind, h.1.run s, Result.andThen_ok, RVs.run s h.2, Sem.run_pure]
theorem results_eq (fn : Func) (tmps : Array Value) : results fn tmps = (do let vs ← fn.results.mapM (rvRun tmps); pure (if h : vs.size = 1 then vs[0] else .tuple vs)) := rfl
theorem run_results {fn : Func} {rs : List ResultVar} {vs : List Value} {w : World} (hr : fn.results = rs.toArray) (h : RVs P σ fr rs vs) (s : St w0 w σ φ) : (results fn (act fr).tmps).run P w = .ok (retOf vs) w := by
  have h1 := RVs.run s h
  rw [results_eq, hr, List.mapM_toArray]
  simp only [Sem.run_bind, Sem.run_map, h1, Result.andThen_ok, Sem.run_pure]
  match vs with
  | [] => rfl
  | [v] => rfl
  | _ :: _ :: _ => rfl
theorem JE_ret {fn : Func} {Post : Value → List VP → Prop} {rs : List ResultVar} {vs : List Value} (φo : List VP) (hr : fn.results = rs.toArray) (hv : RVs P σ fr rs vs) (hP : Post (retOf vs) φo) (hφ : ∀ p ∈ φo, (true, p) ∈ φ) :
    JE (bodyPost P fn (PostY w0 Post)) .ret w0 σ φ fr :=
  fun _ s => bodyPost_of (run_results hr hv s) (PostY_of s φo hP hφ)
theorem JE_end {fn : Func} {Post : Value → List VP → Prop} {rs : List ResultVar} {vs : List Value} (φo : List VP) (hr : fn.results = rs.toArray) (hv : RVs P σ fr rs vs) (hP : Post (retOf vs) φo) (hφ : ∀ p ∈ φo, (true, p) ∈ φ) :
    JE (bodyPost P fn (PostY w0 Post)) .normal w0 σ φ fr :=
  fun _ s => bodyPost_of' (run_results hr hv s) (PostY_of s φo hP hφ)
end

end Go.Fw
