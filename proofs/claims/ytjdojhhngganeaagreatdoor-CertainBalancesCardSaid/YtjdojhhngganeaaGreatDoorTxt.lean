/- strings.Builder at this program's numbers: what WriteString and String do. -/
import Derived.Test.YtjdojhhngganeaaGreatDoorProg
import Derived.Lib.Strings
import Derived.Lib.Slices
import Derived.Lib.Walk
import Derived.Lib.Builder
import Derived.Lib.AppendStr
import Derived.Lib.UnsafeStr
import Derived.WalkKit
import Derived.Laws.Externs
import Derived.Laws.IdiomCopy
import Derived.Laws.BitsLemmas
import Derived.Shelf.RegionOpenPlain
import Derived.Test.YtjdojhhngganeaaGreatDoorFwC
set_option linter.unusedVariables false
namespace Go.Proofs
open Go.RowKit

theorem txt_sizeB : (Tryz.prog.info? 121).map (·.size) = some 2 := by kernel_rfl
theorem txt_liesB : liesAt Tryz.prog Tryz.prog.depth 121 (2 / Tryz.prog.cellsOf 121) 0 121 1 = true := by kernel_rfl
theorem txt_infoByte : (Tryz.prog.info? 5).map (fun i => (i.zero, i.size, i.bytes)) = some (some (.int .u8 0), 1, 1) := by kernel_rfl
theorem txt_cellsByte : Tryz.prog.cellsOf 5 = 1 := by kernel_rfl
theorem txt_u89 : Tryz.prog.underlying 118 = some (.pointer 121) := by kernel_rfl
theorem txt_u124 : Tryz.prog.underlying 163 = some .unsafePointer := by kernel_rfl
theorem txt_u90 : Tryz.prog.underlying 119 = some (.slice 5) := by kernel_rfl
theorem txt_u9 : Tryz.prog.underlying 9 = some .string := by kernel_rfl
theorem txt_u115 : Tryz.prog.underlying 147 = some (.pointer 5) := by kernel_rfl
theorem txt_info_parts {P : Program} {t : TypeId} {z : Value} {a b : Nat} (h : (P.info? t).map (fun i => (i.zero, i.size, i.bytes)) = some (some z, a, b)) : ∃ i, P.info? t = some i ∧ i.zero = some z ∧ i.size = a ∧ i.bytes = b := by
  obtain ⟨i, hi, he⟩ := Option.map_eq_some_iff.1 h
  simp only [Prod.mk.injEq] at he
  exact ⟨i, hi, he.1, he.2.1, he.2.2⟩

set_option maxHeartbeats 1000000 in
set_option maxRecDepth 100000 in
theorem txt_copyCheck_fresh (b : Nat) (w : World) (h0 : w.cell? ⟨b, 0, none⟩ = some (.pointer none)) (hsh : w.shape? b = some (121, 2)) (hfz : w.frozen? ⟨b, 0, none⟩ = false) :
    Calls Tryz.prog 121 #[.pointer (some ⟨b, 0, none⟩)] w fun e w' => e = .returned (.tuple #[]) ∧ w' = w.setCell ⟨b, 0, none⟩ (.pointer (some ⟨b, 0, none⟩)) := by
  obtain ⟨j, hj, hjs⟩ := Option.map_eq_some_iff.1 txt_sizeB
  go_enter Tryz.func121, Tryz.ntmps121
  go_wp2
  rw [Lib.run_to_unsafe w ⟨b, 0, none⟩ txt_u89 txt_u124 hj (by rw [hjs]; decide) hsh (Nat.zero_lt_succ 1)]
  simp only [Result.andThen]
  rw [Oper.upon_value]
  go_wp2
  rw [run_callFunc_extern Tryz.func142 (by kernel_rfl) (by kernel_rfl) (by kernel_rfl) (e := Extern.AbiNoEscape.same) (by kernel_rfl)]
  rw [Lib.run_noEscape]
  simp only [Result.andThen]
  rw [Oper.upon_value]
  go_wp2
  rw [Lib.run_from_unsafe w ⟨b, 0, none⟩ txt_u124 txt_u89 hj hsh txt_liesB]
  simp only [Result.andThen]
  rw [Oper.upon_value]
  go_wp2
  go_end0
  exact ⟨rfl, rfl⟩

theorem txt_copyCheck (B b : Nat) (bs : List Value) (w : World) (h : Lib.BuilderAt 121 5 B b (.pointer none) bs w) :
    Calls Tryz.prog 121 #[.pointer (some ⟨b, 0, none⟩)] w fun e w' => e = .returned (.tuple #[]) ∧ (Lib.BuilderAt 121 5 B b (.pointer (some ⟨b, 0, none⟩)) bs w' ∧ Below B w w') := by
  refine (txt_copyCheck_fresh b w h.cell0 h.shape h.frozen0).mono ?_
  rintro e w' ⟨rfl, rfl⟩
  exact ⟨rfl, h.used _, (Below.refl B w).setCell (p := ⟨b, 0, none⟩) h.1 _⟩

set_option maxHeartbeats 2000000 in
set_option maxRecDepth 100000 in
theorem txt_WriteString (B b : Nat) (bs : List Value) (s : ByteArray) (w : World) (h : Lib.BuilderAt 121 5 B b (.pointer none) bs w) (hlen : bs.length + s.size ≤ 140737488355328) (hBw : B ≤ w.heap.size) :
    Calls Tryz.prog 98 #[.pointer (some ⟨b, 0, none⟩), .string s] w fun e w' => e = .returned (.tuple #[.int .i64 s.size, .nilIface]) ∧ (Lib.BuilderAt 121 5 B b (.pointer (some ⟨b, 0, none⟩)) (bs ++ Lib.strCells s) w' ∧ Below B w w') := by
  obtain ⟨i0, hi, hz0, hz1, hz2⟩ := txt_info_parts txt_infoByte
  go_enter Tryz.func98, Tryz.ntmps98
  go_wp2_with (go_at_call 121; refine (txt_copyCheck B b bs _ h).mono ?_)
  rintro e w1 ⟨rfl, h1, hb1⟩
  obtain ⟨hB, v, hbk, hown, hne⟩ := h1
  have c0 : w1.cell? ⟨b, 0, none⟩ = some (.pointer (some ⟨b, 0, none⟩)) := by rw [Lib.cell_of_heap hbk]; rfl
  have c1 : w1.cell? ⟨b, 1, none⟩ = some v := by rw [Lib.cell_of_heap hbk]; rfl
  go_wp2_with (at_builtin; refine Lib.wpList_append_own_string _ rfl _ _ 119 9 rfl B 5 i0 txt_u90 txt_u9 hi hz0 hz1 hz2 _ _ _ rfl hown s rfl ?c3 ?c4 ?c5 ?_)
  case c3 => unfold maxLen; omega
  case c4 => omega
  case c5 => have := hb1.size; omega
  intro v' w2 hown' hgrow _
  have hlt : b < w1.heap.size := by
    rcases Nat.lt_or_ge b w1.heap.size with h' | h'
    · exact h'
    · simp [Array.getElem?_eq_none h'] at hbk
  have hb2 : w2.heap[b]? = some (.cells #[.pointer (some ⟨b, 0, none⟩), v] 121 (0, 0)) := by
    rw [hgrow.block b hlt (fun e => hne e.symm)]
    exact hbk
  have d0 : w2.cell? ⟨b, 0, none⟩ = some (.pointer (some ⟨b, 0, none⟩)) := by rw [Lib.cell_of_heap hb2]; rfl
  have d1 : w2.cell? ⟨b, 1, none⟩ = some v := by rw [Lib.cell_of_heap hb2]; rfl
  have f1 : w2.frozen? ⟨b, 1, none⟩ = false := Lib.frozen_of_heap hb2 1
  obtain ⟨ao, n', cap, rfl⟩ : ∃ ao n' cap, v' = .slice ao n' cap := by
    rcases hown'.2 with ⟨hv, _⟩ | ⟨g, cap, cur, hv, _⟩
    · exact ⟨_, _, _, hv⟩
    · exact ⟨_, _, _, hv⟩
  go_wp2
  go_ret2
  refine ⟨rfl, ?_, ?_⟩
  · exact Lib.BuilderAt.put (T := 121) (e := 5) hB hb2 (bs' := bs ++ Lib.strCells s) (by simpa [Lib.strCells_length] using hown') (by decide)
  · exact (hb1.grown hgrow (by have := hb1.size; omega) (fun k hk => (hown.lt k hk).1)).setCell (p := ⟨b, 1, none⟩) hB _

set_option maxHeartbeats 1000000 in
set_option maxRecDepth 100000 in
theorem txt_String (B b : Nat) (l : List UInt8) (w : World) (h : Lib.BuilderAt 121 5 B b (.pointer (some ⟨b, 0, none⟩)) (Lib.byteCells l) w) (h0 : l ≠ []) :
    Calls Tryz.prog 100 #[.pointer (some ⟨b, 0, none⟩)] w fun e w' => e = .returned (.string ⟨l.toArray⟩) ∧ Below B w w' := by
  obtain ⟨hB, v, hbk, hown, hne⟩ := h
  have hl0 : l.length ≠ 0 := by simpa using h0
  rw [Lib.byteCells_length] at hown
  obtain ⟨g, cap, cur, rfl, hbg, hg, hnc, hcm, hcs, htake⟩ : ∃ g cap cur, v = .slice (some ⟨g, 0, none⟩) l.length cap ∧ B ≤ g ∧ w.heap[g]? = some (.cells cur 5 (0, 0)) ∧ l.length ≤ cap ∧ cap ≤ maxLen ∧ cur.size = cap * 1 ∧ cur.toList.take (l.length * 1) = Lib.byteCells l := by
    rcases hown.2 with ⟨_, hz⟩ | ⟨g, cap, cur, hv, r⟩
    · exact absurd hz hl0
    · exact ⟨g, cap, cur, hv, r⟩
  have c1 : w.drew.cell? ⟨b, 1, none⟩ = some (.slice (some ⟨g, 0, none⟩) l.length cap) := by
    have : w.drew.heap[b]? = some (.cells #[.pointer (some ⟨b, 0, none⟩), .slice (some ⟨g, 0, none⟩) l.length cap] 121 (0, 0)) := hbk
    rw [Lib.cell_of_heap this]; rfl
  have hSD : (Builtin.unsafeSliceData_ #[119] 147 #[.slice (some ⟨g, 0, none⟩) l.length cap]).run Tryz.prog w.drew = .ok (.pointer (some ⟨g, 0, none⟩)) w.drew :=
    Lib.run_unsafeSliceData_row _ _ _ _ _ _ (by omega)
  have hUS : (Builtin.unsafeString_ #[147, 3] 9 #[.pointer (some ⟨g, 0, none⟩), .int .i64 l.length]).run Tryz.prog w.drew = .ok (.string ⟨l.toArray⟩) (w.drew.freeze ⟨g, 0, none⟩ l.length) := by
    refine Lib.run_unsafeString_row w.drew 147 3 9 5 txt_u115 txt_cellsByte g cur.size (by have hg' : w.drew.heap[g]? = some (.cells cur 5 (0, 0)) := hg; simp [World.shape?, hg']) l h0 (by omega) (by unfold maxLen at hcm; omega) ?_
    intro j x hx
    have := hown.cells (g := g) rfl j (.int .u8 x.toNat) (by simp [Lib.byteCells, hx])
    exact this
  go_enter Tryz.func100, Tryz.ntmps100
  go_wp2
  go_region
  all_goals (go_wp2; go_ret; exact ⟨rfl, Lib.below_freeze (Below.drew (Below.refl B w)) (p := ⟨g, 0, none⟩) hbg _⟩)
end Go.Proofs

/-! strconv.FormatUint below 100. -/
namespace Go.Proofs
open Go.RowKit

set_option maxHeartbeats 1000000 in
set_option maxRecDepth 100000 in
theorem txt_small1 (w : World) : Calls Tryz.prog 97 #[.int .u64 1, .int .i64 10] w fun e w' => e = .returned (.string ⟨#[49]⟩) ∧ w' = w := by
  go_enter Tryz.func97, Tryz.ntmps97
  go_wp2
  go_ret
  exact ⟨rfl, rfl⟩
end Go.Proofs

/- The program logic: a builder of strings that is written once and read once. -/
namespace Go.Fw
open Go Go.RowKit Go.Nat9 Go.Proofs

section
variable {Q : Exit → Act → World → Prop} {w0 : Ctx} {fr : Fr} {ops : Array Oper} {rest : List Oper}
  {d : Nat} {ty : TypeId} {pos : String} {aft : Array Edge}
theorem JL_bwrite {x a1 a2 : Operand} {ts : Array TypeId} {b : Nat} {s : ByteArray} (hf : Ev fr x (.func (.func 98) #[] #[])) (hc : callable Tryz.prog 98 = true) (ha : EvL fr [a1, a2] [.pointer (some ⟨b, 0, none⟩), .string s]) (h0 : 0 < s.size) (hs : s.size ≤ 1000)
    (k : ∀ ad cap, JL Tryz.prog ops Q w0 [box b 121 [.pointer (some ⟨b, 0, none⟩), .slice ad s.size cap], osl ad s.size cap 5 1 (Lib.strCells s)] [] rest (upd fr d (.tuple #[.int .i64 s.size, .nilIface]))) :
    JL Tryz.prog ops Q w0 [box b 121 [.pointer none, .slice none 0 0], osl none 0 0 5 1 []] [] (⟨some d, .call { callee := .value x, args := #[a1, a2], argTypes := ts }, ty, pos, aft, none⟩ :: rest) fr := by
  intro w st
  have hbox : w.heap[b]? = some (.cells #[.pointer none, .slice none 0 0] 121 (0, 0)) := st.own _ List.mem_cons_self
  have hB : w0.w.heap.size ≤ b := st.fresh _ List.mem_cons_self b rfl
  have hba : Lib.BuilderAt 121 5 w0.w.heap.size b (.pointer none) [] w := ⟨hB, _, hbox, ⟨rfl, .inl ⟨rfl, rfl⟩⟩, by simp [Value.ownBlock]⟩
  refine wpList_call (xs := [a1, a2]) hf hc ha (txt_WriteString w0.w.heap.size b [] s w hba (by simp; omega) st.base.size) ?_
  rintro e w' ⟨rfl, ⟨_, v, hbk, hown, hne⟩, hbel⟩
  refine ⟨_, rfl, ?_⟩
  obtain ⟨ad, cap, rfl⟩ : ∃ ad cap, v = .slice ad s.size cap := by
    rcases hown.2 with ⟨hv, hz⟩ | ⟨g, cap, cur, hv, _⟩
    · rw [List.nil_append, Lib.strCells_length] at hz; omega
    · rw [List.nil_append, Lib.strCells_length] at hv; exact ⟨_, _, hv⟩
  rw [List.nil_append, Lib.strCells_length] at hown
  refine k ad cap w' ⟨st.base.trans hbel, ?_, ?_, ?_, fun p hp => (by cases hp)⟩
  · intro r hr
    rcases List.mem_cons.1 hr with rfl | hr
    · exact hbk
    · obtain rfl := List.mem_singleton.1 hr
      refine ⟨hown.1, ?_⟩
      rcases hown.2 with h | ⟨g, cap', cur, h1, h2, h3⟩
      · exact .inl h
      · exact .inr ⟨g, cap', cur, h1, Nat.zero_le _, h3⟩
  · intro r hr i hi
    rcases List.mem_cons.1 hr with rfl | hr
    · obtain rfl : b = i := by simpa [box] using hi
      exact hB
    · obtain rfl := List.mem_singleton.1 hr
      exact (hown.lt i hi).1
  · refine List.Pairwise.cons ?_ (List.Pairwise.cons (fun _ h => by cases h) List.Pairwise.nil)
    intro r hr i hi hk
    obtain rfl := List.mem_singleton.1 hr
    obtain rfl : b = i := by simpa [box] using hi
    exact hne hk
theorem JL_bstring {x a1 : Operand} {ts : Array TypeId} {b : Nat} {s : ByteArray} {ad : Option Addr} {cap : Nat} (hf : Ev fr x (.func (.func 100) #[] #[])) (hc : callable Tryz.prog 100 = true) (ha : EvL fr [a1] [.pointer (some ⟨b, 0, none⟩)]) (h0 : 0 < s.size)
    (k : JL Tryz.prog ops Q w0 [] [] rest (upd fr d (.string s))) :
    JL Tryz.prog ops Q w0 [box b 121 [.pointer (some ⟨b, 0, none⟩), .slice ad s.size cap], osl ad s.size cap 5 1 (Lib.strCells s)] [] (⟨some d, .call { callee := .value x, args := #[a1], argTypes := ts }, ty, pos, aft, none⟩ :: rest) fr := by
  intro w st
  have hbox : w.heap[b]? = some (.cells #[.pointer (some ⟨b, 0, none⟩), .slice ad s.size cap] 121 (0, 0)) := st.own _ List.mem_cons_self
  have hB : w0.w.heap.size ≤ b := st.fresh _ List.mem_cons_self b rfl
  have ho : (osl ad s.size cap 5 1 (Lib.strCells s)).holds w := st.own _ (List.mem_cons_of_mem _ List.mem_cons_self)
  have hne : (Value.slice ad s.size cap).ownBlock ≠ some b := by
    have := List.rel_of_pairwise_cons st.dist List.mem_cons_self b rfl
    exact this
  have hown : w.ownsRow w0.w.heap.size 5 1 (.slice ad s.size cap) (Lib.strCells s).length (Lib.strCells s) := by
    rw [Lib.strCells_length]
    refine ⟨ho.1, ?_⟩
    rcases ho.2 with h | ⟨g, cap', cur, h1, h2, h3⟩
    · exact .inl h
    · refine .inr ⟨g, cap', cur, h1, ?_, h3⟩
      exact st.fresh _ (List.mem_cons_of_mem _ List.mem_cons_self) g (by show (Value.slice ad s.size cap).ownBlock = some g; rw [h1]; rfl)
  have hba : Lib.BuilderAt 121 5 w0.w.heap.size b (.pointer (some ⟨b, 0, none⟩)) (Lib.byteCells s.data.toList) w := ⟨hB, _, hbox, hown, hne⟩
  refine wpList_call (xs := [a1]) hf hc ha (txt_String w0.w.heap.size b s.data.toList w hba (fun h => by
    have e : s.size = s.data.toList.length := by show s.data.size = _; rw [Array.length_toList]
    rw [e, h] at h0; exact absurd h0 (by decide))) ?_
  rintro e w' ⟨rfl, hbel⟩
  refine ⟨_, rfl, ?_⟩
  have := k w' ⟨st.base.trans hbel, fun r hr => (by cases hr), fun r hr => (by cases hr), List.Pairwise.nil, fun p hp => (by cases hp)⟩
  simpa using this
/-- FormatUint gives s for x. -/
def FmtAt (x : Nat) (s : ByteArray) : Prop := ∀ w, Calls Tryz.prog 97 #[.int .u64 (x : Nat), .int .i64 10] w fun e w' => e = .returned (.string s) ∧ w' = w
theorem fmt_con {x : Nat} {s : ByteArray} (h : FmtAt x s) : ConF Tryz.prog 97 [.int .u64 (x : Nat), .int .i64 10] [] (fun v φo => v = .string s ∧ φo = []) := by
  intro w hin
  refine (h w).mono ?_
  rintro e w' ⟨rfl, rfl⟩
  exact ⟨_, [], rfl, ⟨rfl, rfl⟩, Below.refl _ _, fun p hp => (by cases hp)⟩
def TxtAt (x : Nat) (s : ByteArray) : Prop := 0 < x ∧ x < 1000000000 ∧ FmtAt x s ∧ 0 < s.size ∧ s.size ≤ 1000
theorem txtAt1 : TxtAt 1 ⟨#[49]⟩ := ⟨by decide, by decide, txt_small1, by decide, by decide⟩
/-- What the text of one limb's loop keeps. -/
def TxtI (b : Nat) (s : ByteArray) (k : Nat) (pa : Value) (ad : Option Addr) (m cap : Nat) (cs : List Value) : Prop :=
  (k = 1 ∧ pa = .pointer none ∧ ad = none ∧ m = 0 ∧ cap = 0 ∧ cs = []) ∨ (k = 0 ∧ pa = .pointer (some ⟨b, 0, none⟩) ∧ m = s.size ∧ cs = Lib.strCells s)
theorem limbs_one {x : Nat} (h0 : 0 < x) (h : x < 1000000000) : (limbsOf x).length = 1 := by
  have h1 := limbsOf_len_pos h0
  have h2 : (limbsOf x).length ≤ 1 := limbsOf_len_of_lt (by omega)
  omega
end
/-- Limbs as they come. -/
structure RIn (n : Nat) (L : List Nat) (m : Nat) (M : List Nat) : Prop where
  l1 : L.length = n
  u1 : U32 L
  l2 : M.length = m
  u2 : U32 M
theorem RIn.fin {n m : Nat} {L M : List Nat} (r : RIn n L m M) {s : Bool} (h1 : n ≤ 4) (h2 : m ≤ 4) : FIn s n L m M (mkq s (val L) (val M)) 4 :=
  ⟨⟨r.l1, r.u1, rfl, h1⟩, ⟨r.l2, r.u2, rfl, h2⟩, rfl⟩
end Go.Fw
