/- The program logic: shifts, bits, arrays in boxes, appending to immutable data anew. -/
import Derived.Test.YtfkfmpfohaomhaaGreatFwS
import Derived.Laws.BitsAllLaws
import Derived.Laws.BitsLemmas
namespace Go.Fw
open Go Go.RowKit
section
variable {P : Program} {t e : TypeId} {sz by' : Nat} {zs : List Value} {ty : TypeId} {w : World}
/-- Append onto immutable data without spare room, something: a new block. -/
theorem run_append_own {X : Nat → Prop} {ad ad2 : Option Addr} {n cap m c : Nat} {xs news : List Value} (hs : slOf P t = some (e, sz, by', zs)) (hz : zs.length = sz) (hsz : 0 < sz) (hx : CellsAt X w ad xs) (hxl : xs.length = n * sz) (hcap : cap = n) (hm : 0 < m)
    (hl : news.length = m * sz) (hsrc : SrcAt w ad2 news) (h63 : n + m ≤ 9223372036854775807) (hbytes : (n + m) * by' ≤ 140737488355328) :
    ∃ cap' w', (Builtin.append_ #[t, t] ty #[.slice ad n cap, .slice ad2 m c]).run P w = .ok (.slice (some ⟨w.heap.size, 0, none⟩) (n + m) cap') w' ∧ Below w.heap.size w w' ∧ (osl (some ⟨w.heap.size, 0, none⟩) (n + m) cap' e sz (xs ++ news)).holds w' := by
  have h63' : n + m ≤ maxLen := by simpa [maxLen] using h63
  obtain ⟨i, zv, hu, hi, hi1, hi2, hi3, hi4⟩ := slOf_spec hs
  have hzv : zv.cells.size = sz := by rw [← hz, ← hi4]; simp
  subst hcap
  have hpos : 0 < news.length := by rw [hl]; exact Nat.mul_pos (by omega) hsz
  obtain ⟨a, rfl, _⟩ := hsrc 0 _ (List.getElem?_eq_getElem hpos)
  have hnews : ∀ j u, news[j]? = some u → w.cell? (a.add j) = some u := fun j u hj => by
    obtain ⟨a', he, hc⟩ := hsrc j u hj
    obtain rfl : a = a' := by simpa using he
    exact hc
  have hgr := osl_grown (w := w) (e := e) (n := cap) (m := m) (old := cap) (xs := xs) (news := news) hzv hxl hl h63'
  have hbl : ∀ (o : Obj), Below w.heap.size w (w.drew.alloc o) := fun o => ((Below.refl _ _).drew).alloc (by simp) o
  cases had : ad with
  | none =>
    have hx0 : xs = [] := by
      cases hxs : xs with
      | nil => rfl
      | cons v l => obtain ⟨b, o, he, _⟩ := hx 0 v (by rw [hxs]; rfl); rw [had] at he; cases he
    subst hx0
    have hc0 : cap = 0 := by
      have h0 : cap * sz = 0 := by simpa using hxl.symm
      rcases Nat.mul_eq_zero.1 h0 with h | h
      · exact h
      · omega
    subst hc0
    have hr := run_append_nil (P := P) w t ty e i zv hu hi hi3 a m c news (by rw [hi1]; exact hl) hnews (by omega) (by omega) (by rw [hi2]; simp at hbytes; omega)
    simp only [Nat.zero_add, List.nil_append, Array.empty_append] at hgr ⊢
    exact ⟨_, _, hr, hbl _, hgr⟩
  | some b =>
    have holds : ∀ j u, xs[j]? = some u → w.cell? (b.add j) = some u := fun j u hj => by
      obtain ⟨a', he, hc⟩ := hx.some hj
      rw [had] at he
      obtain rfl : b = a' := by simpa using he
      exact hc
    have hr := run_append_grow (P := P) w t ty e i zv hu hi hi3 b cap cap xs (by rw [hi1]; exact hxl) holds a m c news (by rw [hi1]; exact hl) hnews (by omega) (by omega) (growslice_fits (by omega) (by rw [hi2]; exact hbytes))
    exact ⟨_, _, hr, hbl _, hgr⟩
end
section
variable {P : Program} {Q : Exit → Act → World → Prop} {w0 : Ctx} {σ σ' : List Res} {φ φ' : List (Bool × VP)} {fr : Fr} {ops : Array Oper} {rest : List Oper}
  {d : Nat} {ty : TypeId} {pos : String} {aft : Array Edge}
theorem JL_appendN {t e : TypeId} {sz by' : Nat} {zs : List Value} {x y : Operand} {ad ad2 : Option Addr} {n cap m c : Nat} {xs news : List Value} (hs : slOf P t = some (e, sz, by', zs)) (hz : zs.length = sz) (hsz : 0 < sz)
    (hx : Ev fr x (.slice ad n cap)) (hy : Ev fr y (.slice ad2 m c)) (hv : Reads w0 σ φ ad xs) (hxl : xs.length = n * sz) (hcap : cap = n) (hm : 0 < m) (hl : news.length = m * sz) (hr : Reads w0 σ φ ad2 news)
    (h63 : n + m ≤ 9223372036854775807) (hbytes : (n + m) * by' ≤ 140737488355328)
    (k : ∀ ad' cap', JL P ops Q w0 (σ ++ [osl ad' (n + m) cap' e sz (xs ++ news)]) φ rest (upd fr d (.slice ad' (n + m) cap'))) :
    JL P ops Q w0 σ φ (⟨some d, .call { callee := .builtin .append, args := #[x, y], argTypes := #[t, t] }, ty, pos, aft, none⟩ :: rest) fr := by
  intro w s
  obtain ⟨X, hc⟩ := hr w s
  obtain ⟨X', hvw⟩ := hv w s
  obtain ⟨cap', w', hrun, hbel, hown⟩ := run_append_own (ty := ty) (c := c) hs hz hsz hvw hxl hcap hm hl hc.src h63 hbytes
  refine wpList_run rfl rfl (by rw [exec_append hx hy, hrun]; rfl) (k _ cap' w' ?_)
  refine s.addRes _ hbel hown fun k hk => ?_
  simp only [osl, Value.ownBlock, Option.some.injEq] at hk
  omega
/-! ### Shifts and bits -/
theorem JL_shl_to {t t' : TypeId} {x y : Operand} {k k2 : IntKind} {a b c : Int} (hx : Ev fr x (.int k a)) (hy : Ev fr y (.int k2 b)) (hb : 0 ≤ b) (hc : k.wrap (a * 2 ^ (min b.toNat k.bits)) = c) (n : JL P ops Q w0 σ φ rest (upd fr d (.int k c))) :
    JL P ops Q w0 σ φ (⟨some d, .binOp .shl t x y t', ty, pos, aft, none⟩ :: rest) fr :=
  JL_pure _ (fun w => by
    have hb' : ¬ b < 0 := by omega
    simp [execOp, hx.eq, hy.eq, binOp, eqGuard, Op.shift, hb', hc]) n
theorem JL_shr_to {t t' : TypeId} {x y : Operand} {k k2 : IntKind} {a b c : Int} (hx : Ev fr x (.int k a)) (hy : Ev fr y (.int k2 b)) (hb : 0 ≤ b) (hc : a.fdiv (2 ^ (min b.toNat k.bits)) = c) (n : JL P ops Q w0 σ φ rest (upd fr d (.int k c))) :
    JL P ops Q w0 σ φ (⟨some d, .binOp .shr t x y t', ty, pos, aft, none⟩ :: rest) fr :=
  JL_pure _ (fun w => by
    have hb' : ¬ b < 0 := by omega
    simp [execOp, hx.eq, hy.eq, binOp, eqGuard, Op.shift, hb', hc]) n
theorem JL_and_to {t t' : TypeId} {x y : Operand} {k : IntKind} {a b c : Int} (hx : Ev fr x (.int k a)) (hy : Ev fr y (.int k b)) (hc : bits .and k a b = c) (n : JL P ops Q w0 σ φ rest (upd fr d (.int k c))) :
    JL P ops Q w0 σ φ (⟨some d, .binOp .and t x y t', ty, pos, aft, none⟩ :: rest) fr :=
  JL_pure _ (fun w => by simp [execOp, hx.eq, hy.eq, binOp, eqGuard, intBits_and, hc]) n
theorem JL_or_to {t t' : TypeId} {x y : Operand} {k : IntKind} {a b c : Int} (hx : Ev fr x (.int k a)) (hy : Ev fr y (.int k b)) (hc : bits .or k a b = c) (n : JL P ops Q w0 σ φ rest (upd fr d (.int k c))) :
    JL P ops Q w0 σ φ (⟨some d, .binOp .or t x y t', ty, pos, aft, none⟩ :: rest) fr :=
  JL_pure _ (fun w => by simp [execOp, hx.eq, hy.eq, binOp, eqGuard, intBits_or, hc]) n
theorem JL_andNot_to {t t' : TypeId} {x y : Operand} {k : IntKind} {a b c : Int} (hx : Ev fr x (.int k a)) (hy : Ev fr y (.int k b)) (hc : bits .andNot k a b = c) (n : JL P ops Q w0 σ φ rest (upd fr d (.int k c))) :
    JL P ops Q w0 σ φ (⟨some d, .binOp .andNot t x y t', ty, pos, aft, none⟩ :: rest) fr :=
  JL_pure _ (fun w => by simp [execOp, hx.eq, hy.eq, binOp, eqGuard, intBits_andNot, hc]) n
/-! ### Arrays in boxes -/
def arrOf (P : Program) (t : TypeId) : Option (Nat × TypeId × Nat) :=
  match P.underlying t with
  | some (.array n e) => match P.info? e with
    | some i => some (n, e, i.size)
    | none => none
  | _ => none
theorem JL_indexArr {t e : TypeId} {x y : Operand} {b o n sz : Nat} {kk : IntKind} {a : Int} (k : Nat) (hs : arrOf P t = some (n, e, sz)) (hx : Ev fr x (.pointer (some ⟨b, o, none⟩))) (hy : Ev fr y (.int kk a)) (ha : a = (k : Int)) (hk : k < n)
    (h : JL P ops Q w0 σ φ rest (upd fr d (.pointer (some ⟨b, o + k * sz, none⟩)))) : JL P ops Q w0 σ φ (⟨some d, .indexAddr t x y, ty, pos, aft, none⟩ :: rest) fr := by
  refine JL_pure _ (fun w => ?_) h
  unfold arrOf at hs
  split at hs
  · rename_i n' e' hu
    split at hs
    · rename_i i hi
      simp only [Option.some.injEq, Prod.mk.injEq] at hs
      obtain ⟨rfl, rfl, rfl⟩ := hs
      subst ha
      simp [execOp, hx.eq, hy.eq, Instr.indexAt, Instr.sureAddr, run_underlying hu, asIntOf, sizeOf, typeInfo, hi, hk, Addr.add]
    · cases hs
  · cases hs
theorem JL_loadAt {T T' : TypeId} {x : Operand} {b o n : Nat} {cs : List Value} {v : Value} (i : Nat) (hT : tyOf P T = some (false, n)) (hx : Ev fr x (.pointer (some ⟨b, o, none⟩))) (hσ : Nth σ i (box b T' cs)) (hv : cs[o]? = some v)
    (k : JL P ops Q w0 σ φ rest (upd fr d v)) : JL P ops Q w0 σ φ (⟨some d, .load T x, ty, pos, aft, none⟩ :: rest) fr :=
  JL_pureSt v (fun w s => by
    have hc := (cell_box (s.own _ hσ.mem) o).trans hv
    simp [execOp, hx.eq, Instr.loadAt, Instr.sureAddr, run_loadVar_one hT hc]) k
theorem NthL_self : ∀ (cs : List Value) (l pre : List Value), cs = pre ++ l → NthL cs pre.length l
  | _, [], _, _ => trivial
  | cs, v :: l, pre, h => by
    refine ⟨?_, ?_⟩
    · subst h
      clear NthL_self
      induction pre with
      | nil => rfl
      | cons u p ih => exact ih
    · have := NthL_self cs l (pre ++ [v]) (by rw [h]; simp)
      simpa using this
theorem JL_loadAll {T T' : TypeId} {x : Operand} {b : Nat} {cs : List Value} (i : Nat) (hT : tyOf P T = some (true, cs.length)) (hx : Ev fr x (.pointer (some ⟨b, 0, none⟩))) (hσ : Nth σ i (box b T' cs))
    (k : JL P ops Q w0 σ φ rest (upd fr d (.agg cs.toArray))) : JL P ops Q w0 σ φ (⟨some d, .load T x, ty, pos, aft, none⟩ :: rest) fr :=
  JL_loadA i hT hx hσ (NthL_self cs cs [] rfl) k
theorem JL_storeAt {T T' : TypeId} {x y : Operand} {b o : Nat} {cs : List Value} {v : Value} (i : Nat) (hT : tyOf P T = some (false, 1)) (hx : Ev fr x (.pointer (some ⟨b, o, none⟩))) (hy : Ev fr y v) (hc : v.cells = #[v]) (h1 : v.oneCell' = true)
    (hσ : Nth σ i (box b T' cs)) (hlen : o < cs.length) (k : JL P ops Q w0 (updL σ i (box b T' (cs.set o v))) φ rest fr) : JL P ops Q w0 σ φ (⟨none, .store T x y, ty, pos, aft, none⟩ :: rest) fr :=
  JL_store (vs := [v]) i hT hx hy hc (AllOne.cons h1 AllOne.nil) hσ (by show o + 1 ≤ cs.length; omega) (by simpa [setAll, updL_set] using k)
theorem setAll_full : ∀ (cs vs : List Value) (pre : List Value), cs.length = vs.length → setAll (pre ++ cs) pre.length vs = pre ++ vs
  | [], [], pre, _ => rfl
  | c :: cs, v :: vs, pre, h => by
    have ih := setAll_full cs vs (pre ++ [v]) (by simpa using h)
    rw [setAll, updL_set]
    have e : (pre ++ c :: cs).set pre.length v = (pre ++ [v]) ++ cs := by
      rw [List.set_append_right _ _ (Nat.le_refl _)]; simp
    rw [e]
    simpa using ih
theorem JL_storeAll {T T' : TypeId} {x y : Operand} {b : Nat} {cs vs : List Value} (i : Nat) (hT : tyOf P T = some (true, vs.length)) (hx : Ev fr x (.pointer (some ⟨b, 0, none⟩))) (hy : Ev fr y (.agg vs.toArray)) (h1 : AllOne vs)
    (hσ : Nth σ i (box b T' cs)) (hlen : cs.length = vs.length) (k : JL P ops Q w0 (updL σ i (box b T' vs)) φ rest fr) : JL P ops Q w0 σ φ (⟨none, .store T x y, ty, pos, aft, none⟩ :: rest) fr :=
  JL_store (vs := vs) i hT hx hy rfl h1 hσ (by omega) (by have := setAll_full cs vs [] hlen; simp only [List.nil_append, List.length_nil] at this; rw [this]; exact k)
end
/-! ### A field of a value -/
def fvOf (P : Program) (t : TypeId) (f : Nat) : Option Nat :=
  match P.underlying t with
  | some (.struct fields) => match fields[f]? with
    | some fd => match tyOf P fd.type with
      | some (false, _) => fOf P t f
      | _ => none
    | none => none
  | _ => none
section
variable {P : Program} {Q : Exit → Act → World → Prop} {w0 : Ctx} {σ σ' : List Res} {φ φ' : List (Bool × VP)} {fr : Fr} {ops : Array Oper} {rest : List Oper}
  {d : Nat} {ty : TypeId} {pos : String} {aft : Array Edge}
theorem JL_fieldN {t : TypeId} {x : Operand} {f off : Nat} {vs : List Value} {v : Value} (hf : fvOf P t f = some off) (hx : Ev fr x (.agg vs.toArray)) (hv : Nth vs off v)
    (k : JL P ops Q w0 σ φ rest (upd fr d v)) : JL P ops Q w0 σ φ (⟨some d, .field t x f, ty, pos, aft, none⟩ :: rest) fr := by
  unfold fvOf at hf
  split at hf
  · rename_i fields hu
    split at hf
    · rename_i fd hfd
      split at hf
      · rename_i n hn
        exact JL_field hf (fun fields' fd' h1 h2 => by
          rw [hu] at h1
          simp only [Option.some.injEq, TypeDesc.struct.injEq] at h1
          subst h1
          rw [hfd] at h2
          obtain rfl := Option.some.inj h2
          exact hn) hx hv k
      · cases hf
    · cases hf
  · cases hf
end
/-! ## Numbers as sets of bits -/
theorem shr_nat (k : IntKind) (a v : Nat) (hv : v ≤ k.bits) : (a : Int).fdiv (2 ^ (min ((v : Nat) : Int).toNat k.bits)) = ((a >>> v : Nat) : Int) := by
  rw [Int.toNat_natCast, Nat.min_eq_left hv, Nat.shiftRight_eq_div_pow]
  rw [Int.fdiv_eq_ediv_of_nonneg _ (Int.le_of_lt (Int.pow_pos (by decide)))]
  push_cast; rfl
theorem i64_back (r : Nat) (h : r < 9223372036854775808) : IntKind.i64.wrap (r : Int) = (r : Int) := by
  rw [IntKind.wrap_i64]; omega
theorem shl_i64 (v : Nat) (hv : v ≤ 62) : IntKind.i64.wrap (1 * 2 ^ (min ((v : Nat) : Int).toNat IntKind.i64.bits)) = ((2 ^ v : Nat) : Int) := by
  rw [Int.toNat_natCast, Nat.min_eq_left (show v ≤ IntKind.i64.bits from by simp only [IntKind.bits]; omega), Int.one_mul]
  have h : 2 ^ v ≤ 2 ^ 62 := Nat.pow_le_pow_right (by decide) hv
  have e : ((2 : Int) ^ v) = ((2 ^ v : Nat) : Int) := by push_cast; rfl
  rw [e]
  exact i64_back _ (Nat.lt_of_le_of_lt h (by decide))
theorem shl_u32 (v : Nat) (hv : v ≤ 31) : IntKind.u32.wrap (1 * 2 ^ (min ((v : Nat) : Int).toNat IntKind.u32.bits)) = ((2 ^ v : Nat) : Int) := by
  rw [Int.toNat_natCast, Nat.min_eq_left (show v ≤ IntKind.u32.bits from by simp only [IntKind.bits]; omega), Int.one_mul]
  have h : 2 ^ v ≤ 2 ^ 31 := Nat.pow_le_pow_right (by decide) hv
  have e : ((2 : Int) ^ v) = ((2 ^ v : Nat) : Int) := by push_cast; rfl
  rw [e]
  generalize 2 ^ v = X at h ⊢
  simp only [Nat.reducePow] at h
  rw [IntKind.wrap_u32']
  omega
theorem bit_zero (a v : Nat) : ((a >>> v &&& 1 : Nat) : Int) = 0 ↔ a.testBit v = false := by
  have h : a.testBit v = (a >>> v &&& 1 != 0) := by rw [Nat.testBit, Nat.and_comm]
  rw [h]
  generalize a >>> v &&& 1 = X
  by_cases hx : X = 0
  · subst hx; simp
  · simp only [bne_eq_false_iff_eq]; omega
theorem bit_iff (a v : Nat) : ((a >>> v &&& 1 : Nat) : Int) ≠ 0 ↔ a.testBit v = true := by
  rw [Ne, bit_zero]; simp
theorem and1_lt (a : Nat) : a &&& 1 < 2 := by rw [Nat.and_one_is_mod]; omega
theorem ofInt_i64 (a : Nat) (ha : a < 9223372036854775808) : (BitVec.ofInt 64 (a : Int)).toNat = a := by
  rw [BitVec.toNat_ofInt]; omega
theorem i64_and_nat (a b : Nat) (ha : a < 9223372036854775808) (hb : b < 9223372036854775808) : bits .and .i64 (a : Int) (b : Int) = ((a &&& b : Nat) : Int) := by
  show IntKind.i64.wrap (((BitVec.ofInt 64 (a : Int) &&& BitVec.ofInt 64 (b : Int)).toNat : Nat) : Int) = _
  rw [BitVec.toNat_and, ofInt_i64 a ha, ofInt_i64 b hb]
  exact i64_back _ (Nat.lt_of_le_of_lt Nat.and_le_left ha)
theorem i64_or_nat (a b : Nat) (ha : a < 9223372036854775808) (hb : b < 9223372036854775808) : bits .or .i64 (a : Int) (b : Int) = ((a ||| b : Nat) : Int) := by
  show IntKind.i64.wrap (((BitVec.ofInt 64 (a : Int) ||| BitVec.ofInt 64 (b : Int)).toNat : Nat) : Int) = _
  rw [BitVec.toNat_or, ofInt_i64 a ha, ofInt_i64 b hb]
  exact i64_back _ (Nat.or_lt_two_pow (n := 63) ha hb)
/-- What is in a, and not in b. -/
def bdiff (a b : Nat) : Nat := a ^^^ (a &&& b)
theorem testBit_bdiff (a b i : Nat) : (bdiff a b).testBit i = (a.testBit i && !b.testBit i) := by
  unfold bdiff
  rw [Nat.testBit_xor, Nat.testBit_and]
  cases a.testBit i <;> cases b.testBit i <;> rfl
theorem bdiff_le (a b : Nat) (n : Nat) (h : a < 2 ^ n) : bdiff a b < 2 ^ n := Nat.xor_lt_two_pow h (Nat.lt_of_le_of_lt Nat.and_le_left h)
theorem i64_andNot_nat (a b : Nat) (ha : a < 9223372036854775808) (hb : b < 9223372036854775808) : bits .andNot .i64 (a : Int) (b : Int) = ((bdiff a b : Nat) : Int) := by
  show IntKind.i64.wrap (((BitVec.ofInt 64 (a : Int) &&& ~~~ BitVec.ofInt 64 (b : Int)).toNat : Nat) : Int) = _
  have e : (BitVec.ofInt 64 (a : Int) &&& ~~~ BitVec.ofInt 64 (b : Int)).toNat = bdiff a b := by
    apply Nat.eq_of_testBit_eq
    intro i
    rw [testBit_bdiff, ← BitVec.getLsbD]
    rw [BitVec.getLsbD_and, BitVec.getLsbD_not]
    rw [BitVec.getLsbD, BitVec.getLsbD, ofInt_i64 a ha, ofInt_i64 b hb]
    by_cases hi : i < 64
    · simp [hi]
    · have : a.testBit i = false := Nat.testBit_lt_two_pow (Nat.lt_of_lt_of_le ha (Nat.le_trans (by decide : 9223372036854775808 ≤ 2 ^ 64) (Nat.pow_le_pow_right (by decide) (by omega))))
      simp [hi, this]
  rw [e]
  exact i64_back _ (bdiff_le a b 63 ha)
end Go.Fw
