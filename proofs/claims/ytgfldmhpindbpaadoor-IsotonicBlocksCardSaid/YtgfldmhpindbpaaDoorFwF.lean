/- The program logic's rules for append, for calls, and for the end of a function. -/
import Derived.Test.YtgfldmhpindbpaaDoorFwD
namespace Go.Fw
open Go Go.RowKit

def SrcAt (w : World) (ad : Option Addr) (news : List Value) : Prop := ∀ (j : Nat) (u : Value), news[j]? = some u → ∃ a, ad = some a ∧ w.cell? (a.add j) = some u
theorem CellsAt.src {X : Nat → Prop} {w : World} {ad : Option Addr} {xs : List Value} (h : CellsAt X w ad xs) : SrcAt w ad xs := fun _ _ hj => h.some hj

section
variable {P : Program} {w : World} {t ty e : TypeId} {sz by' : Nat} {zs : List Value}
theorem run_append_zero {ad2 ad : Option Addr} {n cap c : Nat} (hs : slOf P t = some (e, sz, by', zs)) (hn : n ≤ cap) : (Builtin.append_ #[t, t] ty #[.slice ad n cap, .slice ad2 0 c]).run P w = .ok (.slice ad n cap) w := by
  obtain ⟨i, zv, hu, hi, h1, h2, h3, h4⟩ := slOf_spec hs
  cases ad <;> cases ad2 <;> simp [Builtin.append_, run_underlying hu, sizeOf, typeInfo, hi, Builtin.lenOf, hn, Builtin.firstCells, loadCells, loadCellsFrom, storeCells]
theorem size_zc (z : Array Value) (n : Nat) : (Builtin.zeroCells z n).size = n * z.size := by simp [Builtin.zeroCells]
/-- A new block holds what was and what is appended. -/
theorem osl_grown {zv : Value} {n m old : Nat} {xs news : List Value} (hzs : zv.cells.size = sz) (hx : xs.length = n * sz) (hl : news.length = m * sz) (h63 : n + m ≤ maxLen) :
    (osl (some ⟨w.heap.size, 0, none⟩) (n + m) (grownCap w (n + m) old e) e sz (xs ++ news)).holds
      (w.drew.alloc (.cells (xs.toArray ++ news.toArray ++ Builtin.zeroCells zv.cells (grownCap w (n + m) old e - (n + m))) e)) := by
  have hge := grownCap_ge w (n + m) old e
  have hcm : grownCap w (n + m) old e ≤ maxLen := grownCap_le_maxLen w (n + m) old e h63
  have hlen : (xs ++ news).length = (n + m) * sz := by rw [List.length_append, hx, hl, Nat.add_mul]
  refine ⟨hlen, .inr ⟨w.heap.size, _, _, rfl, Nat.zero_le _, heap_alloc_new w.drew _, hge, hcm, ?_, ?_⟩⟩
  · simp only [Array.size_append, List.size_toArray, size_zc, hzs, hx, hl, ← Nat.add_mul]
    congr 1
    omega
  · simp only [Array.toList_append]
    rw [← hlen]
    exact List.take_left
theorem run_append_res {ad ad2 : Option Addr} {n cap m c : Nat} {xs news : List Value} (hs : slOf P t = some (e, sz, by', zs)) (hz : zs.length = sz) (hsz : 0 < sz) (hown : (osl ad n cap e sz xs).holds w)
    (hl : news.length = m * sz) (hsrc : SrcAt w ad2 news) (h1 : AllOne news) (h63 : n + m ≤ 9223372036854775807) (hbytes : (n + m) * by' ≤ 140737488355328) :
    ∃ ad' cap' w', (Builtin.append_ #[t, t] ty #[.slice ad n cap, .slice ad2 m c]).run P w = .ok (.slice ad' (n + m) cap') w' ∧ (osl ad' (n + m) cap' e sz (xs ++ news)).holds w' ∧
      w.grownBy w' (osl ad n cap e sz xs).key ∧ ∀ k, (osl ad' (n + m) cap' e sz (xs ++ news)).key = some k → (osl ad n cap e sz xs).key = some k ∨ w.heap.size ≤ k := by
  have h63' : n + m ≤ maxLen := by simpa [maxLen] using h63
  obtain ⟨i, zv, hu, hi, hi1, hi2, hi3, hi4⟩ := slOf_spec hs
  have hzv : zv.cells.size = sz := by rw [← hz, ← hi4]; simp
  have hnc : n ≤ cap := by
    rcases hown.2 with ⟨hv, hn⟩ | ⟨g, cap', cur, hv, _, _, hnc, _⟩
    · omega
    · simp only [Value.slice.injEq] at hv; omega
  by_cases hm : m = 0
  · subst hm
    obtain rfl : news = [] := List.eq_nil_of_length_eq_zero (by omega)
    refine ⟨ad, cap, w, run_append_zero hs hnc, by simpa using hown, ⟨rfl, rfl, rfl, Nat.le_refl _, fun _ _ _ => rfl⟩, fun k hk => .inl (by simpa [osl] using hk)⟩
  · have hpos : 0 < news.length := by rw [hl]; exact Nat.mul_pos (by omega) hsz
    obtain ⟨a, rfl, _⟩ := hsrc 0 _ (List.getElem?_eq_getElem hpos)
    have hnews : ∀ j u, news[j]? = some u → w.cell? (a.add j) = some u := fun j u hj => by
      obtain ⟨a', he, hc⟩ := hsrc j u hj
      obtain rfl : a = a' := by simpa using he
      exact hc
    have fresh : ∀ (row : Option Nat) (o : Obj), w.grownBy (w.drew.alloc o) row := fun row o => ⟨rfl, rfl, rfl, by simp, fun k hk _ => Below.heap_alloc w.drew o k hk⟩
    rcases hown.2 with ⟨hv, hn⟩ | ⟨g, cap', cur, hv, hb, hgg, _, hcm, hcs, htake⟩
    · simp only [Value.slice.injEq] at hv
      obtain ⟨rfl, rfl, rfl⟩ := hv
      obtain rfl : xs = [] := List.eq_nil_of_length_eq_zero (by have := hown.1; simpa using this)
      have hr := run_append_nil (P := P) w t ty e i zv hu hi hi3 a m c news (by rw [hi1]; exact hl) hnews (by omega) (by omega) (by rw [hi2]; simp at hbytes; omega)
      have hgr := osl_grown (w := w) (e := e) (n := 0) (m := m) (old := 0) (xs := []) (news := news) hzv (by simp) hl h63'
      simp only [Nat.zero_add, List.nil_append, Array.empty_append] at hgr ⊢
      exact ⟨_, _, _, hr, hgr, fresh _ _, fun k hk => .inr (by simp [osl, Value.ownBlock] at hk; omega)⟩
    · have hv' := hv
      simp only [Value.slice.injEq] at hv
      obtain ⟨rfl, _, rfl⟩ := hv
      by_cases hroom : n + m ≤ cap
      · have hfit : n * i.size + news.length ≤ cur.size := by rw [hi1, hl, hcs, ← Nat.add_mul]; exact Nat.mul_le_mul_right _ hroom
        have hr := run_append_room (P := P) w t ty e i hu hi g n cap cur hgg a m c news (by rw [hi1]; exact hl) hnews h1 hroom hfit
        refine ⟨_, _, _, hr, ⟨by rw [List.length_append, hown.1, hl, Nat.add_mul], .inr ⟨g, cap, _, rfl, Nat.zero_le _, setRow_heap w g cur _ e _ hgg, hroom, hcm, ?_, ?_⟩⟩,
          ⟨rfl, rfl, rfl, by simp, fun k _ hk => setRow_other w g k _ (fun e => hk (by simp [osl, Value.ownBlock, e]))⟩, fun k hk => .inl hk⟩
        · simp only [List.size_toArray, List.length_append, List.length_take, List.length_drop, Array.length_toList]
          rw [hcs] at hfit ⊢
          omega
        · rw [hi1, htake]
          have hlen : (xs ++ news).length = (n + m) * sz := by rw [List.length_append, hown.1, hl, Nat.add_mul]
          rw [← hlen]
          exact List.take_left
      · have holds : ∀ j u, xs[j]? = some u → w.cell? ((⟨g, 0, none⟩ : Addr).add j) = some u := fun j u hj => by
          obtain ⟨a', he, hc⟩ := (own_cells hown).some hj
          obtain rfl : (⟨g, 0, none⟩ : Addr) = a' := by simpa using he
          exact hc
        have hr := run_append_grow (P := P) w t ty e i zv hu hi hi3 ⟨g, 0, none⟩ n cap xs (by rw [hi1]; exact hown.1) holds a m c news (by rw [hi1]; exact hl) hnews (by omega) (by omega) (growslice_fits (by omega) (by rw [hi2]; exact hbytes))
        exact ⟨_, _, _, hr, osl_grown (w := w) (e := e) hzv hown.1 hl h63', fresh _ _, fun k hk => .inr (by simp [osl, Value.ownBlock] at hk; omega)⟩
/-- Append onto immutable data without spare room: a new block, or nothing to append. -/
theorem run_append_full {X : Nat → Prop} {ad ad2 : Option Addr} {n cap m c : Nat} {xs news : List Value} (hs : slOf P t = some (e, sz, by', zs)) (hz : zs.length = sz) (hsz : 0 < sz) (hx : CellsAt X w ad xs) (hxl : xs.length = n * sz) (hcap : cap = n)
    (hl : news.length = m * sz) (hsrc : SrcAt w ad2 news) (h63 : n + m ≤ 9223372036854775807) (hbytes : (n + m) * by' ≤ 140737488355328) :
    ∃ ad' cap' w', (Builtin.append_ #[t, t] ty #[.slice ad n cap, .slice ad2 m c]).run P w = .ok (.slice ad' (n + m) cap') w' ∧ n + m ≤ cap' ∧ cap' ≤ 9223372036854775807 ∧ Below w.heap.size w w' ∧
      ((m = 0 ∧ w' = w ∧ ad' = ad) ∨ CellsAt (fun k => k < w.heap.size) w' ad' (xs ++ news)) := by
  have h63' : n + m ≤ maxLen := by simpa [maxLen] using h63
  obtain ⟨i, zv, hu, hi, hi1, hi2, hi3, hi4⟩ := slOf_spec hs
  have hzv : zv.cells.size = sz := by rw [← hz, ← hi4]; simp
  subst hcap
  by_cases hm : m = 0
  · subst hm
    exact ⟨ad, cap, w, run_append_zero hs (Nat.le_refl _), by simp, by omega, Below.refl _ _, .inl ⟨rfl, rfl, rfl⟩⟩
  · have hpos : 0 < news.length := by rw [hl]; exact Nat.mul_pos (by omega) hsz
    obtain ⟨a, rfl, _⟩ := hsrc 0 _ (List.getElem?_eq_getElem hpos)
    have hnews : ∀ j u, news[j]? = some u → w.cell? (a.add j) = some u := fun j u hj => by
      obtain ⟨a', he, hc⟩ := hsrc j u hj
      obtain rfl : a = a' := by simpa using he
      exact hc
    have hgr := osl_grown (w := w) (e := e) (n := cap) (m := m) (old := cap) (xs := xs) (news := news) hzv hxl hl h63'
    have hbl : ∀ (o : Obj), Below w.heap.size w (w.drew.alloc o) := fun o => ((Below.refl _ _).drew).alloc (by simp) o
    have hge := grownCap_ge w (cap + m) cap e
    have hcm : grownCap w (cap + m) cap e ≤ maxLen := grownCap_le_maxLen w (cap + m) cap e h63'
    have hfin : ∀ {w' : World} {c' : Nat}, (osl (some ⟨w.heap.size, 0, none⟩) (cap + m) c' e sz (xs ++ news)).holds w' → CellsAt (fun k => k < w.heap.size) w' (some ⟨w.heap.size, 0, none⟩) (xs ++ news) := by
      intro w' c' h j u hj
      obtain ⟨b, o, he, _, hc⟩ := own_cells h j u hj
      simp at he
      obtain ⟨rfl, rfl⟩ := he
      exact ⟨_, 0, rfl, by omega, hc⟩
    cases had : ad with
    | none =>
      have hx0 : xs = [] := by
        cases hxs : xs with
        | nil => rfl
        | cons v l => obtain ⟨b, o, he, _⟩ := hx 0 v (by rw [hxs]; rfl); rw [had] at he; cases he
      subst hx0
      have hc0 : cap = 0 := by
        have h0 : cap * sz = 0 := by simpa using hxl.symm
        rcases Nat.mul_eq_zero.1 h0 with h | h
        · exact h
        · omega
      subst hc0
      have hr := run_append_nil (P := P) w t ty e i zv hu hi hi3 a m c news (by rw [hi1]; exact hl) hnews (by omega) (by omega) (by rw [hi2]; simp at hbytes; omega)
      simp only [Nat.zero_add, List.nil_append, Array.empty_append] at hgr hge hcm hfin ⊢
      exact ⟨_, _, _, hr, hge, by simpa [maxLen] using hcm, hbl _, .inr (hfin hgr)⟩
    | some b =>
      have holds : ∀ j u, xs[j]? = some u → w.cell? (b.add j) = some u := fun j u hj => by
        obtain ⟨a', he, hc⟩ := hx.some hj
        rw [had] at he
        obtain rfl : b = a' := by simpa using he
        exact hc
      have hr := run_append_grow (P := P) w t ty e i zv hu hi hi3 b cap cap xs (by rw [hi1]; exact hxl) holds a m c news (by rw [hi1]; exact hl) hnews (by omega) (by omega) (growslice_fits (by omega) (by rw [hi2]; exact hbytes))
      exact ⟨_, _, _, hr, hge, by simpa [maxLen] using hcm, hbl _, .inr (hfin hgr)⟩
end

section
variable {P : Program} {Q : Exit → Act → World → Prop} {w0 : Ctx} {σ σ' : List Res} {φ φ' : List (Bool × VP)} {fr : Fr} {ops : Array Oper} {rest : List Oper}
  {d : Nat} {ty : TypeId} {pos : String} {aft : Array Edge}
theorem exec_append {t : TypeId} {x y : Operand} {u v : Value} (hx : Ev fr x u) (hy : Ev fr y v) (w : World) :
    (execOp (ev fr) ⟨some d, .call { callee := .builtin .append, args := #[x, y], argTypes := #[t, t] }, ty, pos, aft, none⟩).run P w = ((Builtin.append_ #[t, t] ty #[u, v]).run P w).andThen fun a w' => .ok (.value a) w' := by
  simp [execOp, resolve, invoke, builtin, hx.eq, hy.eq]
theorem osl_cap {w : World} {ad : Option Addr} {n cap sz : Nat} {E : TypeId} {xs : List Value} (h : (osl ad n cap E sz xs).holds w) : n ≤ cap ∧ cap ≤ 9223372036854775807 := by
  rcases h.2 with ⟨hv, hn⟩ | ⟨g, cap', cur, hv, _, _, h1, h2, _⟩
  · simp only [Value.slice.injEq] at hv; omega
  · simp only [Value.slice.injEq] at hv
    simp only [maxLen] at h2
    omega
theorem JL_append {t e : TypeId} {sz by' : Nat} {zs : List Value} {x y : Operand} {ad ad2 : Option Addr} {n cap m c : Nat} {xs news : List Value} (i : Nat) (hs : slOf P t = some (e, sz, by', zs)) (hz : zs.length = sz) (hsz : 0 < sz)
    (hx : Ev fr x (.slice ad n cap)) (hy : Ev fr y (.slice ad2 m c)) (hσ : Nth σ i (osl ad n cap e sz xs)) (hl : news.length = m * sz) (hr : Reads w0 σ φ ad2 news) (h1 : AllOne news)
    (h63 : n + m ≤ 9223372036854775807) (hbytes : (n + m) * by' ≤ 140737488355328)
    (k : ∀ ad' cap', n + m ≤ cap' ∧ cap' ≤ 9223372036854775807 → JL P ops Q w0 (updL σ i (osl ad' (n + m) cap' e sz (xs ++ news))) φ rest (upd fr d (.slice ad' (n + m) cap'))) :
    JL P ops Q w0 σ φ (⟨some d, .call { callee := .builtin .append, args := #[x, y], argTypes := #[t, t] }, ty, pos, aft, none⟩ :: rest) fr := by
  intro w s
  obtain ⟨X, hc⟩ := hr w s
  obtain ⟨ad', cap', w', hrun, hown, hg, hkey⟩ := run_append_res (ty := ty) (c := c) hs hz hsz (s.own _ hσ.mem) hl hc.src h1 h63 hbytes
  refine wpList_run rfl rfl (by rw [exec_append hx hy, hrun]; rfl) (k ad' cap' (osl_cap hown) w' ?_)
  rw [updL_set]
  exact s.setRes i _ _ hσ.get hg.size hg.os hg.tape hg.output (fun k hk hne => hg.block k hk (fun e => hne e.symm)) hown hkey
/-- The first append onto a nil slice: it becomes an own resource. -/
theorem St.addNil {w : World} (s : St w0 w σ φ) (E : TypeId) (sz : Nat) : St w0 w (σ ++ [osl none 0 0 E sz []]) φ :=
  s.addRes _ (Below.refl _ _) (World.ownsRow_nil _ _ _ _) (fun k hk => by simp [osl, Value.ownBlock] at hk)
theorem JL_addNil {l : List Oper} (E : TypeId) (sz : Nat) (k : JL P ops Q w0 (σ ++ [osl none 0 0 E sz []]) φ l fr) : JL P ops Q w0 σ φ l fr := JL_conv (fun _ s => s.addNil E sz) k
theorem JC_addNil {c : Code} (E : TypeId) (sz : Nat) (k : JC P c Q w0 (σ ++ [osl none 0 0 E sz []]) φ fr) : JC P c Q w0 σ φ fr := JC_conv (fun _ s => s.addNil E sz) k
theorem JL_appendV {t e : TypeId} {sz by' : Nat} {zs : List Value} {x y : Operand} {f : Bool} {ad ad2 : Option Addr} {n cap m c : Nat} {xs news : List Value} (hs : slOf P t = some (e, sz, by', zs)) (hz : zs.length = sz) (hsz : 0 < sz)
    (hx : Ev fr x (.slice ad n cap)) (hy : Ev fr y (.slice ad2 m c)) (hv : (f, vCells ad xs) ∈ φ) (hxl : xs.length = n * sz) (hcap : cap = n) (hl : news.length = m * sz) (hr : Reads w0 σ φ ad2 news)
    (h63 : n + m ≤ 9223372036854775807) (hbytes : (n + m) * by' ≤ 140737488355328)
    (k : ∀ ad' cap', n + m ≤ cap' ∧ cap' ≤ 9223372036854775807 → JL P ops Q w0 σ ((f, vCells ad' (xs ++ news)) :: φ) rest (upd fr d (.slice ad' (n + m) cap'))) :
    JL P ops Q w0 σ φ (⟨some d, .call { callee := .builtin .append, args := #[x, y], argTypes := #[t, t] }, ty, pos, aft, none⟩ :: rest) fr := by
  intro w s
  obtain ⟨X, hc⟩ := hr w s
  have hvw : CellsAt (Xof w0 σ f) w ad xs := s.views _ hv
  obtain ⟨ad', cap', w', hrun, hle, hle2, hbel, hor⟩ := run_append_full (ty := ty) (c := c) hs hz hsz hvw hxl hcap hl hc.src h63 hbytes
  refine wpList_run rfl rfl (by rw [exec_append hx hy, hrun]; rfl) (k ad' cap' ⟨hle, hle2⟩ w' ?_)
  refine (s.ext hbel).addView ?_
  rcases hor with ⟨rfl, rfl, rfl⟩ | hcells
  · have : news = [] := List.eq_nil_of_length_eq_zero (by simpa using hl)
    subst this
    show CellsAt _ _ _ _
    simpa using hvw
  · refine hcells.mono (fun _ _ _ => rfl) ?_
    intro b hb hX
    rcases hX with ⟨r, hr, hrk⟩ | ⟨_, hlt⟩
    · exact r.lt w (s.own r hr) b hrk
    · exact Nat.lt_of_lt_of_le (w0.hY _ hlt) s.base.size

/-! ### Calls -/
theorem run_callFunc {f : FuncId} {args : Array Value} (hc : callable P f = true) (w : World) : (callFunc f args).run P w = .ok (.enter f args) w := by
  unfold callable at hc
  split at hc
  · rename_i fn hf
    simp only [Bool.and_eq_true, Bool.not_eq_true'] at hc
    have hb : fn.body.isNone = false := by cases h : fn.body <;> simp [h] at hc ⊢
    simp only [callFunc, Sem.run_bind, run_program, Result.andThen_ok, hf, hc.2, Bool.false_eq_true, if_false, hb, Sem.run_pure]
  · cases hc
theorem exec_call {f : FuncId} {x : Operand} {xs : List Operand} {ts : Array TypeId} {vs : List Value} {dst : Option Nat} (hf : Ev fr x (.func (.func f) #[] #[])) (hc : callable P f = true) (ha : xs.map (ev fr) = vs) (w : World) :
    (execOp (ev fr) ⟨dst, .call { callee := .value x, args := xs.toArray, argTypes := ts }, ty, pos, aft, none⟩).run P w = .ok (.enter f vs.toArray) w := by
  subst ha
  simp [execOp, resolve, hf.eq, Deferred.ofValue, invoke, run_callFunc hc]
def EvL (fr : Fr) : List Operand → List Value → Prop
  | [], l => l = []
  | x :: xs, l => match l with
    | [] => False
    | v :: vs => Ev fr x v ∧ EvL fr xs vs
theorem EvL.eq {fr : Fr} : ∀ {xs : List Operand} {vs : List Value}, EvL fr xs vs → xs.map (ev fr) = vs
  | [], _, h => by rw [show _ = _ from h]; rfl
  | x :: xs, [], h => h.elim
  | x :: xs, v :: vs, h => by rw [List.map_cons, h.1.eq, EvL.eq h.2]
theorem wpList_call {f : FuncId} {x : Operand} {xs : List Operand} {ts : Array TypeId} {vs : List Value} {w : World} {R : Ending → World → Prop} (hf : Ev fr x (.func (.func f) #[] #[])) (hc : callable P f = true) (ha : EvL fr xs vs)
    (con : Calls P f vs.toArray w R) (hR : ∀ e w', R e w' → ∃ v, e = .returned v ∧ wpList P ops Q rest (act (upd fr d v)) w') :
    wpList P ops Q (⟨some d, .call { callee := .value x, args := xs.toArray, argTypes := ts }, ty, pos, aft, none⟩ :: rest) (act fr) w := by
  refine wpList_plain rfl fun K hK => ?_
  unfold Oper.wp
  rw [act_eval_fun, exec_call hf hc ha.eq]
  refine con.mono ?_
  intro e w' hr
  obtain ⟨v, rfl, h⟩ := hR e w' hr
  show K ((act fr).put (some d) v) w'
  rw [act_put]
  exact hK _ _ h
/-- What a contract asks, out of the state. -/
def Asks (w0 : Ctx) (σ : List Res) (φ : List (Bool × VP)) (φin : List VP) : Prop := ∀ w, St w0 w σ φ → ∀ p ∈ φin, p.holds (fun _ => False) w
theorem Asks.nil : Asks w0 σ φ [] := fun _ _ p hp => by cases hp
theorem Asks.cons {p : VP} {ps : List VP} (h : ∀ w, St w0 w σ φ → p.holds (fun _ => False) w) (h' : Asks w0 σ φ ps) : Asks w0 σ φ (p :: ps) := fun w s q hq => by
  rcases List.mem_cons.1 hq with rfl | hq
  · exact h w s
  · exact h' w s q hq
theorem holds_of_mem {p : VP} {f : Bool} (h : (f, p) ∈ φ) : ∀ w, St w0 w σ φ → p.holds (fun _ => False) w :=
  fun w s => p.mono _ _ w w (s.views _ h) (Nat.le_refl _) (fun _ _ _ => rfl) (fun _ _ h => h.elim)
theorem holds_of_own {ad : Option Addr} {n cap sz : Nat} {E : TypeId} {xs : List Value} (i : Nat) (h : Nth σ i (osl ad n cap E sz xs)) : ∀ w, St w0 w σ φ → (vCells ad xs).holds (fun _ => False) w :=
  fun _ s => (own_cells (s.own _ h.mem)).mono (fun _ _ _ => rfl) (fun _ _ h => h.elim)
theorem JL_callF {f : FuncId} {x : Operand} {xs : List Operand} {ts : Array TypeId} {vs : List Value} {φin : List VP} {Post : Value → List VP → Prop} (con : ConF P f vs φin Post) (hf : Ev fr x (.func (.func f) #[] #[])) (hc : callable P f = true) (ha : EvL fr xs vs)
    (hin : Asks w0 σ φ φin) (k : ∀ v φo, Post v φo → JL P ops Q w0 σ (φo.map (fun p => (true, p)) ++ φ) rest (upd fr d v)) :
    JL P ops Q w0 σ φ (⟨some d, .call { callee := .value x, args := xs.toArray, argTypes := ts }, ty, pos, aft, none⟩ :: rest) fr := by
  intro w s
  refine wpList_call hf hc ha (con w (hin w s)) ?_
  rintro e w' ⟨v, φo, rfl, hP, hb, hv⟩
  refine ⟨v, rfl, k v φo hP w' ?_⟩
  have s' := s.ext hb
  refine ⟨s'.base, s'.own, s'.fresh, s'.dist, fun p hp => ?_⟩
  rcases List.mem_append.1 hp with hp | hp
  · obtain ⟨q, hq, rfl⟩ := List.mem_map.1 hp
    refine q.mono _ _ w' w' (hv q hq) (Nat.le_refl _) (fun _ _ _ => rfl) ?_
    intro b _ hX
    rcases hX with ⟨r, hr, hrk⟩ | ⟨_, hlt⟩
    · exact r.lt w (s.own r hr) b hrk
    · exact Nat.lt_of_lt_of_le (w0.hY _ hlt) s.base.size
  · exact s'.views p hp
/-- What a sharing contract asks: views that avoid X, all fresh or not. -/
def AsksA (w0 : Ctx) (σ : List Res) (φ : List (Bool × VP)) (b : Bool) (φin : List VP) : Prop := ∀ w, St w0 w σ φ → ∀ p ∈ φin, p.holds (Xof w0 σ b) w
theorem AsksA.nil {b : Bool} : AsksA w0 σ φ b [] := fun _ _ p hp => by cases hp
theorem AsksA.cons {b : Bool} {p : VP} {ps : List VP} (h : ∀ w, St w0 w σ φ → p.holds (Xof w0 σ b) w) (h' : AsksA w0 σ φ b ps) : AsksA w0 σ φ b (p :: ps) := fun w s q hq => by
  rcases List.mem_cons.1 hq with rfl | hq
  · exact h w s
  · exact h' w s q hq
theorem holdsA_of_mem {p : VP} {b : Bool} (h : (b, p) ∈ φ) : ∀ w, St w0 w σ φ → p.holds (Xof w0 σ b) w := fun _ s => s.views _ h
theorem holdsA_of_fresh {p : VP} (h : (true, p) ∈ φ) : ∀ w, St w0 w σ φ → p.holds (Xof w0 σ false) w := fun w s =>
  p.mono _ _ w w (s.views _ h) (Nat.le_refl _) (fun _ _ _ => rfl) (fun _ _ h => by
    rcases h with h | h
    · exact .inl h
    · exact absurd h.1 (by simp))
theorem JL_callA {f : FuncId} {x : Operand} {xs : List Operand} {ts : Array TypeId} {vs : List Value} {φin : List VP} {Post : Value → List VP → Prop} (b : Bool) (con : ConA P f vs φin Post) (hf : Ev fr x (.func (.func f) #[] #[])) (hc : callable P f = true) (ha : EvL fr xs vs)
    (hin : AsksA w0 σ φ b φin) (k : ∀ v φo, Post v φo → JL P ops Q w0 σ (φo.map (fun p => (b, p)) ++ φ) rest (upd fr d v)) :
    JL P ops Q w0 σ φ (⟨some d, .call { callee := .value x, args := xs.toArray, argTypes := ts }, ty, pos, aft, none⟩ :: rest) fr := by
  intro w s
  have hX : ∀ k, Xof w0 σ b k → k < w.heap.size := by
    intro k hk
    rcases hk with ⟨r, hr, hrk⟩ | ⟨_, hlt⟩
    · exact r.lt w (s.own r hr) k hrk
    · exact Nat.lt_of_lt_of_le (w0.hY _ hlt) s.base.size
  refine wpList_call hf hc ha (con w (Xof w0 σ b) hX (hin w s)) ?_
  rintro e w' ⟨v, φo, rfl, hP, hb, hv⟩
  refine ⟨v, rfl, k v φo hP w' ?_⟩
  have s' := s.ext hb
  refine ⟨s'.base, s'.own, s'.fresh, s'.dist, fun p hp => ?_⟩
  rcases List.mem_append.1 hp with hp | hp
  · obtain ⟨q, hq, rfl⟩ := List.mem_map.1 hp
    exact hv q hq
  · exact s'.views p hp

/-! ### The end -/
def RV (P : Program) (σ : List Res) (fr : Fr) : ResultVar → Value → Prop
  | .tmp t, v => Lk fr t v
  | .cell a T, v => ∃ b T' cs vs, tyOf P T = some (true, List.length vs) ∧ Lk fr a (.pointer (some ⟨b, 0, none⟩)) ∧ (∃ i, Nth σ i (box b T' cs)) ∧ NthL cs 0 vs ∧ v = .agg vs.toArray
theorem RV.cell {a T b : Nat} {T' : TypeId} {cs vs : List Value} (i : Nat) (hT : tyOf P T = some (true, vs.length)) (hl : Lk fr a (.pointer (some ⟨b, 0, none⟩))) (hσ : Nth σ i (box b T' cs)) (hv : NthL cs 0 vs) : RV P σ fr (.cell a T) (.agg vs.toArray) :=
  ⟨b, T', cs, vs, hT, hl, ⟨i, hσ⟩, hv, rfl⟩
def rvRun (tmps : Array Value) : ResultVar → Sem Value
  | .tmp t => pure (tmps.getD t undef)
  | .cell a t => do loadVar t (← asAddr (tmps.getD a undef))
theorem RV.run {r : ResultVar} {v : Value} {w : World} (h : RV P σ fr r v) (s : St w0 w σ φ) : (rvRun (act fr).tmps r).run P w = .ok v w := by
  cases r with
  | tmp t => simp only [rvRun, Sem.run_pure, look_getD, Lk.eq h]
  | cell a T =>
    obtain ⟨b, T', cs, vs, hT, hl, ⟨i, hσ⟩, hv, rfl⟩ := h
    have hcs : ∀ m u, vs[m]? = some u → w.cell? (Addr.add ⟨b, 0, none⟩ m) = some u := fun m u hm => by
      rw [add_lit', cell_box (s.own _ hσ.mem)]; exact hv.get m u hm
    simp only [rvRun, look_getD, Lk.eq hl, asAddr, Sem.run_bind, Sem.run_pure, Result.andThen_ok, run_loadVar_agg hT hcs]
def RVs (P : Program) (σ : List Res) (fr : Fr) : List ResultVar → List Value → Prop
  | [], vs => vs = []
  | r :: rs, vs => match vs with
    | [] => False
    | v :: l => RV P σ fr r v ∧ RVs P σ fr rs l
def retOf : List Value → Value
  | [v] => v
  | vs => .tuple vs.toArray
theorem RVs.run {w : World} (s : St w0 w σ φ) : ∀ {rs : List ResultVar} {vs : List Value}, RVs P σ fr rs vs → (rs.mapM (rvRun (act fr).tmps)).run P w = .ok vs w
  | [], vs, h => by rw [show vs = [] from h]; rfl
  | r :: rs, [], h => h.elim
  | r :: rs, v :: vs, h => by
    rw [List.mapM_cons]
    simp only [Sem.run_bind, h.1.run s, Result.andThen_ok, RVs.run s h.2, Sem.run_pure]
theorem results_eq (fn : Func) (tmps : Array Value) : results fn tmps = (do let vs ← fn.results.mapM (rvRun tmps); pure (if h : vs.size = 1 then vs[0] else .tuple vs)) := rfl
theorem run_results {fn : Func} {rs : List ResultVar} {vs : List Value} {w : World} (hr : fn.results = rs.toArray) (h : RVs P σ fr rs vs) (s : St w0 w σ φ) : (results fn (act fr).tmps).run P w = .ok (retOf vs) w := by
  have h1 := RVs.run s h
  rw [results_eq, hr, List.mapM_toArray]
  simp only [Sem.run_bind, Sem.run_map, h1, Result.andThen_ok, Sem.run_pure]
  match vs with
  | [] => rfl
  | [v] => rfl
  | _ :: _ :: _ => rfl
theorem JE_ret {fn : Func} {Post : Value → List VP → Prop} {rs : List ResultVar} {vs : List Value} (φo : List VP) (hr : fn.results = rs.toArray) (hv : RVs P σ fr rs vs) (hP : Post (retOf vs) φo) (hφ : ∀ p ∈ φo, (true, p) ∈ φ) :
    JE (bodyPost P fn (PostY w0 Post)) .ret w0 σ φ fr :=
  fun _ s => bodyPost_of (run_results hr hv s) (PostY_of s φo hP hφ)
theorem JE_end {fn : Func} {Post : Value → List VP → Prop} {rs : List ResultVar} {vs : List Value} (φo : List VP) (hr : fn.results = rs.toArray) (hv : RVs P σ fr rs vs) (hP : Post (retOf vs) φo) (hφ : ∀ p ∈ φo, (true, p) ∈ φ) :
    JE (bodyPost P fn (PostY w0 Post)) .normal w0 σ φ fr :=
  fun _ s => bodyPost_of' (run_results hr hv s) (PostY_of s φo hP hφ)
end

end Go.Fw

/-! The program logic's loops and meetings by overrides, and small helps. -/
namespace Go.Fw
open Go Go.RowKit

/-- The frame with some slots written anew, in one pass. -/
def mix {α : Type} : List α → List (Option α) → List α
  | [], _ => []
  | l, [] => l
  | v :: l, none :: m => v :: mix l m
  | _ :: l, some x :: m => x :: mix l m

section
variable {P : Program} {Q : Exit → Act → World → Prop} {w0 : Ctx} {σ σ' : List Res} {φ φ' : List (Bool × VP)} {fr fr' : Fr} {ops : Array Oper} {rest : List Oper}
  {d : Nat} {ty : TypeId} {pos : String} {aft : Array Edge}

theorem JC_norm {c : Code} (fr' : Fr) (σ' : List Res) (φ' : List (Bool × VP)) (h1 : fr' = fr) (h2 : σ' = σ) (h3 : φ' = φ) (h : JC P c Q w0 σ' φ' fr') : JC P c Q w0 σ φ fr := by
  subst h1 h2 h3; exact h
theorem JE_norm {e : Exit} (fr' : Fr) (σ' : List Res) (φ' : List (Bool × VP)) (h1 : fr' = fr) (h2 : σ' = σ) (h3 : φ' = φ) (h : JE Q e w0 σ' φ' fr') : JE Q e w0 σ φ fr := by
  subst h1 h2 h3; exact h
theorem JL_dropAt {l : List Oper} (i : Nat) (h : JL P ops Q w0 (σ.eraseIdx i) φ l fr) : JL P ops Q w0 σ φ l fr := JL_conv (fun _ s => s.dropRes (List.eraseIdx_sublist _ _)) h
theorem JC_dropAt {c : Code} (i : Nat) (h : JC P c Q w0 (σ.eraseIdx i) φ fr) : JC P c Q w0 σ φ fr := JC_conv (fun _ s => s.dropRes (List.eraseIdx_sublist _ _)) h
theorem JE_dropAt {e : Exit} (i : Nat) (h : JE Q e w0 (σ.eraseIdx i) φ fr) : JE Q e w0 σ φ fr := JE_conv (fun _ s => s.dropRes (List.eraseIdx_sublist _ _)) h

theorem JL_done_up {y : Code} (n : Nat) {b' : List Value} (σ' : List Res) (φ' : List (Bool × VP)) (hn : fr.n = n) (hl : Nat.ble n fr.base.length = true) (h1 : flatP fr.pend fr.base = b') (h2 : σ' = σ) (h3 : φ' = φ) (h : JC P y Q w0 σ' φ' ⟨n, [], b'⟩) : JL P ops (Then P y Q) w0 σ φ [] fr := by
  subst h2 h3
  intro w s
  rw [act_flat hn hl h1]
  exact JL_done h w s
theorem JL_nil_up (n : Nat) {b' : List Value} (σ' : List Res) (φ' : List (Bool × VP)) (hn : fr.n = n) (hl : Nat.ble n fr.base.length = true) (h1 : flatP fr.pend fr.base = b') (h2 : σ' = σ) (h3 : φ' = φ) (h : JE Q .normal w0 σ' φ' ⟨n, [], b'⟩) : JL P ops Q w0 σ φ [] fr := by
  subst h2 h3
  intro w s
  rw [act_flat hn hl h1]
  exact JL_nil h w s

/-- The frame with some slots written anew. -/
def mixF (fr : Fr) (ov : List (Option Value)) : Fr := ⟨fr.n, [], mix fr.base ov⟩
/-- A loop: ov gives what slots hold anew (u: slots of no interest), os what turns among the resources, fv the views besides. -/
def NextS {ι : Type} (w0 : Ctx) (σ : List Res) (φ : List (Bool × VP)) (fr : Fr) (C : ι → Prop) (μ : ι → Nat) (ov : (Nat → Value) → ι → List (Option Value)) (os : ι → List (Option Res)) (fv : ι → List (Bool × VP)) (n : Nat)
    (Q : Exit → Act → World → Prop) : Exit → Act → World → Prop :=
  Next w0 (fun i : (Nat → Value) × ι => C i.2) (fun i => μ i.2) (fun i => mix σ (os i.2)) (fun i => fv i.2 ++ φ) (fun i => mixF fr (ov i.1 i.2)) n Q
theorem JC_loopS {c : Code} (ι : Type) (C : ι → Prop) (μ : ι → Nat) (ov : (Nat → Value) → ι → List (Option Value)) (os : ι → List (Option Res)) (fv : ι → List (Bool × VP)) (i0 : ι)
    (hfr : mixF fr (ov (look fr) i0) = fr) (hC : C i0) (hσ : mix σ (os i0) = σ) (hφ : ∀ p ∈ fv i0, p ∈ φ)
    (round : ∀ u i, C i → JC P c (NextS w0 σ φ fr C μ ov os fv (μ i) Q) w0 (mix σ (os i)) (fv i ++ φ) (mixF fr (ov u i))) : JC P (.loop c) Q w0 σ φ fr :=
  JC_loop ((Nat → Value) × ι) (fun i => C i.2) (fun i => μ i.2) (fun i => mix σ (os i.2)) (fun i => fv i.2 ++ φ) (fun i => mixF fr (ov i.1 i.2)) (look fr, i0) hfr.symm hC
    (fun w s => by
      simp only [hσ]
      exact s.weaken fun p hp => by
        rcases List.mem_append.1 hp with hp | hp
        · exact hφ p hp
        · exact hp)
    (fun i hC => round i.1 i.2 hC)
theorem JE_nextS {ι : Type} {C : ι → Prop} {μ : ι → Nat} {ov : (Nat → Value) → ι → List (Option Value)} {os : ι → List (Option Res)} {fv : ι → List (Bool × VP)} {n : Nat} (i : ι)
    (hfr : mixF fr (ov (look fr') i) = fr') (hC : C i) (hμ : μ i < n) (hσ : mix σ (os i) = σ') (hφ : ∀ p ∈ fv i ++ φ, p ∈ φ') : JE (NextS w0 σ φ fr C μ ov os fv n Q) .normal w0 σ' φ' fr' :=
  JE_next (look fr', i) hfr.symm hC hμ fun w s => by
    show St w0 w (mix σ (os i)) (fv i ++ φ)
    rw [hσ]
    exact s.weaken hφ
theorem JE_nextS_exit {ι : Type} {C : ι → Prop} {μ : ι → Nat} {ov : (Nat → Value) → ι → List (Option Value)} {os : ι → List (Option Res)} {fv : ι → List (Bool × VP)} {n : Nat} {id : Nat}
    (h : JE Q (.exit id) w0 σ' φ' fr') : JE (NextS w0 σ φ fr C μ ov os fv n Q) (.exit id) w0 σ' φ' fr' := fun w st => h w st
theorem JE_nextS_ret {ι : Type} {C : ι → Prop} {μ : ι → Nat} {ov : (Nat → Value) → ι → List (Option Value)} {os : ι → List (Option Res)} {fv : ι → List (Bool × VP)} {n : Nat}
    (h : JE Q .ret w0 σ' φ' fr') : JE (NextS w0 σ φ fr C μ ov os fv n Q) .ret w0 σ' φ' fr' := fun w st => h w st

def MidS {ι : Type} (w0 : Ctx) (σ : List Res) (φ : List (Bool × VP)) (fr : Fr) (C : ι → Prop) (ov : (Nat → Value) → ι → List (Option Value)) (os : ι → List (Option Res)) (fv : ι → List (Bool × VP)) (Q : Exit → Act → World → Prop) : Exit → Act → World → Prop :=
  Mid w0 (fun i : (Nat → Value) × ι => C i.2) (fun i => mix σ (os i.2)) (fun i => fv i.2 ++ φ) (fun i => mixF fr (ov i.1 i.2)) Q
theorem JC_cutS {x y : Code} (ι : Type) (C : ι → Prop) (ov : (Nat → Value) → ι → List (Option Value)) (os : ι → List (Option Res)) (fv : ι → List (Bool × VP))
    (h1 : JC P x (MidS w0 σ φ fr C ov os fv Q) w0 σ φ fr) (h2 : ∀ u i, C i → JC P y Q w0 (mix σ (os i)) (fv i ++ φ) (mixF fr (ov u i))) : JC P (.seq x y) Q w0 σ φ fr :=
  JC_cut ((Nat → Value) × ι) (fun i => C i.2) (fun i => mix σ (os i.2)) (fun i => fv i.2 ++ φ) (fun i => mixF fr (ov i.1 i.2)) h1 (fun i hC => h2 i.1 i.2 hC)
theorem JE_midS {ι : Type} {C : ι → Prop} {ov : (Nat → Value) → ι → List (Option Value)} {os : ι → List (Option Res)} {fv : ι → List (Bool × VP)} (i : ι)
    (hfr : mixF fr (ov (look fr') i) = fr') (hC : C i) (hσ : mix σ (os i) = σ') (hφ : ∀ p ∈ fv i ++ φ, p ∈ φ') : JE (MidS w0 σ φ fr C ov os fv Q) .normal w0 σ' φ' fr' :=
  JE_mid (look fr', i) hfr.symm hC fun w s => by
    show St w0 w (mix σ (os i)) (fv i ++ φ)
    rw [hσ]
    exact s.weaken hφ
theorem JE_midS_exit {ι : Type} {C : ι → Prop} {ov : (Nat → Value) → ι → List (Option Value)} {os : ι → List (Option Res)} {fv : ι → List (Bool × VP)} {id : Nat}
    (h : JE Q (.exit id) w0 σ' φ' fr') : JE (MidS w0 σ φ fr C ov os fv Q) (.exit id) w0 σ' φ' fr' := fun w st => h w st
theorem JE_midS_ret {ι : Type} {C : ι → Prop} {ov : (Nat → Value) → ι → List (Option Value)} {os : ι → List (Option Res)} {fv : ι → List (Bool × VP)}
    (h : JE Q .ret w0 σ' φ' fr') : JE (MidS w0 σ φ fr C ov os fv Q) .ret w0 σ' φ' fr' := fun w st => h w st

/-- Views of the loop's state stand ahead of the old ones. -/
theorem subset_app {α : Type} {a b l : List α} (h1 : ∀ p ∈ a, p ∈ l) (h2 : ∀ p ∈ b, p ∈ l) : ∀ p ∈ a ++ b, p ∈ l := fun p hp => by
  rcases List.mem_append.1 hp with hp | hp
  · exact h1 p hp
  · exact h2 p hp
theorem subset_nil {α : Type} {l : List α} : ∀ p ∈ ([] : List α), p ∈ l := fun _ h => by cases h
theorem subset_cons {α : Type} {a : α} {b l : List α} (h1 : a ∈ l) (h2 : ∀ p ∈ b, p ∈ l) : ∀ p ∈ a :: b, p ∈ l := fun p hp => by
  rcases List.mem_cons.1 hp with rfl | hp
  · exact h1
  · exact h2 p hp
theorem subset_refl {α : Type} {l : List α} : ∀ p ∈ l, p ∈ l := fun _ h => h
theorem subset_tail {α : Type} {a : α} {b l : List α} (h : ∀ p ∈ b, p ∈ l) : ∀ p ∈ b, p ∈ a :: l := fun p hp => List.mem_cons_of_mem _ (h p hp)

/-! ### Slices with one cell an element -/
theorem JL_idx {t e : TypeId} {x y : Operand} {ad : Option Addr} {len cap by' : Nat} {z : List Value} {kk : IntKind} {a : Int} {xs : List Value} (k : Nat) (hs : slOf P t = some (e, 1, by', z)) (hx : Ev fr x (.slice ad len cap)) (hy : Ev fr y (.int kk a))
    (ha : a = (k : Int)) (hk : k < len) (hr : Reads w0 σ φ ad xs) (hlt : k < xs.length)
    (n : JL P ops Q w0 σ φ rest (upd fr d (ptrAt ad k))) : JL P ops Q w0 σ φ (⟨some d, .indexAddr t x y, ty, pos, aft, none⟩ :: rest) fr :=
  JL_indexAddr k hs hx hy ha hk hr (by omega) (by rw [Nat.mul_one]; exact n)
theorem JL_make1 {t e : TypeId} {by' : Nat} {z : Value} {x y : Operand} {k1 k2 : IntKind} {a b : Int} (n c : Nat) (hs : slOf P t = some (e, 1, by', [z])) (hx : Ev fr x (.int k1 a)) (hy : Ev fr y (.int k2 b))
    (ha : a = (n : Int)) (hb : b = (c : Int)) (hnc : n ≤ c) (hbytes : by' * c ≤ 281474976710656) (hmax : c ≤ 9223372036854775807)
    (k : ∀ g, JL P ops Q w0 (σ ++ [osl (some ⟨g, 0, none⟩) n c e 1 (List.replicate n z)]) φ rest (upd fr d (.slice (some ⟨g, 0, none⟩) n c))) :
    JL P ops Q w0 σ φ (⟨some d, .makeSlice t x y, ty, pos, aft, none⟩ :: rest) fr := by
  refine JL_make n c hs rfl hx hy ha hb hnc hbytes hmax fun g => ?_
  have : ((List.replicate n [z]).flatten) = List.replicate n z := by
    clear k ha hx
    induction n with
    | zero => rfl
    | succ n ih => rw [List.replicate_succ, List.flatten_cons, ih (by omega), List.replicate_succ]; rfl
  rw [this]
  exact k g
/-- '[]T{x}' -/
theorem JL_build1 {t e : TypeId} {by' : Nat} {z v : Value} {x : Operand} (hs : slOf P t = some (e, 1, by', [z])) (hx : Ev fr x v) (hc : v.cells = #[v])
    (k : ∀ g, JL P ops Q w0 (σ ++ [osl (some ⟨g, 0, none⟩) 1 1 e 1 [v]]) φ rest (upd fr d (.slice (some ⟨g, 0, none⟩) 1 1))) :
    JL P ops Q w0 σ φ (⟨some d, .buildSlice t 1 #[(0, x)], ty, pos, aft, none⟩ :: rest) fr := by
  refine JL_buildSlice (pv := [(0, v)]) (vs := [v]) hs ?_ (by decide) (by decide) rfl ?_ k
  · simp [hx.eq]
  · rw [show Array.range (1 * 1) = #[0] from rfl]
    simp [Instr.fill, hc]
theorem JL_build0 {t e : TypeId} {sz by' : Nat} {zs : List Value} (hs : slOf P t = some (e, sz, by', zs))
    (k : ∀ g, JL P ops Q w0 (σ ++ [osl (some ⟨g, 0, none⟩) 0 0 e sz []]) φ rest (upd fr d (.slice (some ⟨g, 0, none⟩) 0 0))) :
    JL P ops Q w0 σ φ (⟨some d, .buildSlice t 0 #[], ty, pos, aft, none⟩ :: rest) fr := by
  refine JL_buildSlice (pv := []) (vs := []) hs (by simp) (by simp) (by decide) (by simp) ?_ k
  simp [Instr.fill, Array.range_zero']
/-- append of one cell -/
theorem JL_append1 {t e : TypeId} {by' : Nat} {z v : Value} {x y : Operand} {ad ad2 : Option Addr} {n cap c : Nat} {xs : List Value} (i j : Nat) (hs : slOf P t = some (e, 1, by', [z]))
    (hx : Ev fr x (.slice ad n cap)) (hy : Ev fr y (.slice ad2 1 c)) (hσ : Nth σ i (osl ad n cap e 1 xs)) (hj : Nth σ j (osl ad2 1 c e 1 [v])) (h1 : v.oneCell' = true)
    (h63 : n + 1 ≤ 9223372036854775807) (hbytes : (n + 1) * by' ≤ 140737488355328)
    (k : ∀ ad' cap', n + 1 ≤ cap' ∧ cap' ≤ 9223372036854775807 → JL P ops Q w0 (updL σ i (osl ad' (n + 1) cap' e 1 (xs ++ [v]))) φ rest (upd fr d (.slice ad' (n + 1) cap'))) :
    JL P ops Q w0 σ φ (⟨some d, .call { callee := .builtin .append, args := #[x, y], argTypes := #[t, t] }, ty, pos, aft, none⟩ :: rest) fr :=
  JL_append i hs rfl (by decide) hx hy hσ rfl (Reads.own j hj) (AllOne.cons h1 AllOne.nil) h63 hbytes k

/-! ### Lists of numbers as cells -/
def u32s (L : List Nat) : List Value := L.map fun (n : Nat) => Value.int .u32 (n : Int)
def i64s (L : List Int) : List Value := L.map fun n => Value.int .i64 n
theorem u32s_length (L : List Nat) : (u32s L).length = L.length := by simp [u32s]
theorem i64s_length (L : List Int) : (i64s L).length = L.length := by simp [i64s]
theorem u32s_get {L : List Nat} {k : Nat} (h : k < L.length) : (u32s L)[k]? = some (.int .u32 (L.getD k 0 : Nat)) := by
  simp [u32s, List.getD_eq_getElem?_getD, h]
theorem i64s_get {L : List Int} {k : Nat} (h : k < L.length) : (i64s L)[k]? = some (.int .i64 (L.getD k 0)) := by
  simp [i64s, List.getD_eq_getElem?_getD, h]
theorem u32s_append (L M : List Nat) : u32s L ++ u32s M = u32s (L ++ M) := by simp [u32s]
theorem u32s_snoc (L : List Nat) (n : Nat) : u32s L ++ [.int .u32 (n : Int)] = u32s (L ++ [n]) := by simp [u32s]
theorem i64s_snoc (L : List Int) (n : Int) : i64s L ++ [.int .i64 n] = i64s (L ++ [n]) := by simp [i64s]
theorem u32s_nil : u32s [] = [] := rfl
theorem i64s_nil : i64s [] = [] := rfl
theorem u32s_one (L : List Nat) : AllOne (u32s L) := fun v hv => by
  obtain ⟨n, _, rfl⟩ := List.mem_map.1 hv; rfl
theorem i64s_one (L : List Int) : AllOne (i64s L) := fun v hv => by
  obtain ⟨n, _, rfl⟩ := List.mem_map.1 hv; rfl
theorem u32s_take (L : List Nat) (k : Nat) : (u32s L).take k = u32s (L.take k) := by simp [u32s, List.map_take]
theorem u32s_drop (L : List Nat) (k : Nat) : (u32s L).drop k = u32s (L.drop k) := by simp [u32s, List.map_drop]
theorem i64s_take (L : List Int) (k : Nat) : (i64s L).take k = i64s (L.take k) := by simp [i64s, List.map_take]
theorem i64s_drop (L : List Int) (k : Nat) : (i64s L).drop k = i64s (L.drop k) := by simp [i64s, List.map_drop]
theorem u32s_set (L : List Nat) (k n : Nat) : setAll (u32s L) k [.int .u32 (n : Int)] = u32s (L.set k n) := by simp [setAll, updL_set, u32s, List.map_set]
theorem i64s_set (L : List Int) (k : Nat) (n : Int) : setAll (i64s L) k [.int .i64 n] = i64s (L.set k n) := by simp [setAll, updL_set, i64s, List.map_set]
theorem u32s_replicate (k : Nat) : List.replicate k (Value.int .u32 0) = u32s (List.replicate k 0) := by simp [u32s]
theorem i64s_replicate (k : Nat) : List.replicate k (Value.int .i64 0) = i64s (List.replicate k 0) := by simp [i64s]
end
end Go.Fw
namespace Go.Fw
open Go Go.RowKit
section
variable {P : Program} {Q : Exit → Act → World → Prop} {w0 : Ctx} {σ σ' : List Res} {φ φ' : List (Bool × VP)} {fr fr' : Fr} {ops : Array Oper} {rest : List Oper}
  {d : Nat} {ty : TypeId} {pos : String} {aft : Array Edge}
theorem all_nil : ∀ p ∈ ([] : List VP), (true, p) ∈ φ := fun _ h => by cases h
theorem all_cons {a : VP} {b : List VP} (h1 : (true, a) ∈ φ) (h2 : ∀ p ∈ b, (true, p) ∈ φ) : ∀ p ∈ a :: b, (true, p) ∈ φ := fun p hp => by
  rcases List.mem_cons.1 hp with rfl | hp
  · exact h1
  · exact h2 p hp
/-- append of a limb, of an int -/
theorem JL_appendU {t e : TypeId} {by' : Nat} {z : Value} {x y : Operand} {ad ad2 : Option Addr} {m cap c : Nat} {L : List Nat} {a : Int} (i j : Nat) (n : Nat) (hs : slOf P t = some (e, 1, by', [z]))
    (hx : Ev fr x (.slice ad m cap)) (hy : Ev fr y (.slice ad2 1 c)) (hσ : Nth σ i (osl ad m cap e 1 (u32s L))) (hj : Nth σ j (osl ad2 1 c e 1 [.int .u32 a])) (hn : a = (n : Int))
    (h63 : m + 1 ≤ 9223372036854775807) (hbytes : (m + 1) * by' ≤ 140737488355328)
    (k : ∀ ad' cap', m + 1 ≤ cap' ∧ cap' ≤ 9223372036854775807 → JL P ops Q w0 (updL σ i (osl ad' (m + 1) cap' e 1 (u32s (L ++ [n])))) φ rest (upd fr d (.slice ad' (m + 1) cap'))) :
    JL P ops Q w0 σ φ (⟨some d, .call { callee := .builtin .append, args := #[x, y], argTypes := #[t, t] }, ty, pos, aft, none⟩ :: rest) fr := by
  subst hn
  refine JL_append1 i j hs hx hy hσ hj rfl h63 hbytes fun ad' cap' hc => ?_
  rw [u32s_snoc]
  exact k ad' cap' hc
theorem JL_appendI {t e : TypeId} {by' : Nat} {z : Value} {x y : Operand} {ad ad2 : Option Addr} {m cap c : Nat} {L : List Int} {a : Int} (i j : Nat) (hs : slOf P t = some (e, 1, by', [z]))
    (hx : Ev fr x (.slice ad m cap)) (hy : Ev fr y (.slice ad2 1 c)) (hσ : Nth σ i (osl ad m cap e 1 (i64s L))) (hj : Nth σ j (osl ad2 1 c e 1 [.int .i64 a]))
    (h63 : m + 1 ≤ 9223372036854775807) (hbytes : (m + 1) * by' ≤ 140737488355328)
    (k : ∀ ad' cap', m + 1 ≤ cap' ∧ cap' ≤ 9223372036854775807 → JL P ops Q w0 (updL σ i (osl ad' (m + 1) cap' e 1 (i64s (L ++ [a])))) φ rest (upd fr d (.slice ad' (m + 1) cap'))) :
    JL P ops Q w0 σ φ (⟨some d, .call { callee := .builtin .append, args := #[x, y], argTypes := #[t, t] }, ty, pos, aft, none⟩ :: rest) fr := by
  refine JL_append1 i j hs hx hy hσ hj rfl h63 hbytes fun ad' cap' hc => ?_
  rw [i64s_snoc]
  exact k ad' cap' hc
/-- An own slice of limbs is let go, cut. -/
theorem JL_give {l : List Oper} {ad : Option Addr} {n cap sz : Nat} {E : TypeId} {xs : List Value} (i : Nat) (hi : Nth σ i (osl ad n cap E sz xs)) (k : JL P ops Q w0 (σ.eraseIdx i) ((true, vCells ad xs) :: φ) l fr) : JL P ops Q w0 σ φ l fr := JL_conv (fun _ s => s.give i hi) k
theorem JC_give {c : Code} {ad : Option Addr} {n cap sz : Nat} {E : TypeId} {xs : List Value} (i : Nat) (hi : Nth σ i (osl ad n cap E sz xs)) (k : JC P c Q w0 (σ.eraseIdx i) ((true, vCells ad xs) :: φ) fr) : JC P c Q w0 σ φ fr := JC_conv (fun _ s => s.give i hi) k
theorem JE_give {e : Exit} {ad : Option Addr} {n cap sz : Nat} {E : TypeId} {xs : List Value} (i : Nat) (hi : Nth σ i (osl ad n cap E sz xs)) (k : JE Q e w0 (σ.eraseIdx i) ((true, vCells ad xs) :: φ) fr) : JE Q e w0 σ φ fr := JE_conv (fun _ s => s.give i hi) k
theorem JL_viewTake {l : List Oper} {f : Bool} {ad : Option Addr} {xs : List Value} (m : Nat) (h : (f, vCells ad xs) ∈ φ) (k : JL P ops Q w0 σ ((f, vCells ad (xs.take m)) :: φ) l fr) : JL P ops Q w0 σ φ l fr :=
  JL_addView (fun w s j u hj => by
    rw [List.getElem?_take] at hj
    split at hj
    · exact (show CellsAt _ _ _ _ from s.views _ h) j u hj
    · cases hj) k
theorem JE_viewTake {e : Exit} {f : Bool} {ad : Option Addr} {xs : List Value} (m : Nat) (h : (f, vCells ad xs) ∈ φ) (k : JE Q e w0 σ ((f, vCells ad (xs.take m)) :: φ) fr) : JE Q e w0 σ φ fr :=
  JE_addView (fun w s j u hj => by
    rw [List.getElem?_take] at hj
    split at hj
    · exact (show CellsAt _ _ _ _ from s.views _ h) j u hj
    · cases hj) k
end
end Go.Fw
