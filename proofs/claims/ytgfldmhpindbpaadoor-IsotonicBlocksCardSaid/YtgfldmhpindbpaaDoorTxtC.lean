/- The program logic: a builder of strings that is written once and read once. -/
import Derived.Test.YtgfldmhpindbpaaDoorFwL
import Derived.Test.YtgfldmhpindbpaaDoorTxtB
namespace Go.Fw
open Go Go.RowKit Go.Nat9 Go.Proofs

section
variable {Q : Exit → Act → World → Prop} {w0 : Ctx} {fr : Fr} {ops : Array Oper} {rest : List Oper}
  {d : Nat} {ty : TypeId} {pos : String} {aft : Array Edge}
theorem JL_bwrite {x a1 a2 : Operand} {ts : Array TypeId} {b : Nat} {s : ByteArray} (hf : Ev fr x (.func (.func 56) #[] #[])) (hc : callable Tryd.prog 56 = true) (ha : EvL fr [a1, a2] [.pointer (some ⟨b, 0, none⟩), .string s]) (h0 : 0 < s.size) (hs : s.size ≤ 1000)
    (k : ∀ ad cap, JL Tryd.prog ops Q w0 [box b 84 [.pointer (some ⟨b, 0, none⟩), .slice ad s.size cap], osl ad s.size cap 5 1 (Lib.strCells s)] [] rest (upd fr d (.tuple #[.int .i64 s.size, .nilIface]))) :
    JL Tryd.prog ops Q w0 [box b 84 [.pointer none, .slice none 0 0], osl none 0 0 5 1 []] [] (⟨some d, .call { callee := .value x, args := #[a1, a2], argTypes := ts }, ty, pos, aft, none⟩ :: rest) fr := by
  intro w st
  have hbox : w.heap[b]? = some (.cells #[.pointer none, .slice none 0 0] 84 (0, 0)) := st.own _ List.mem_cons_self
  have hB : w0.w.heap.size ≤ b := st.fresh _ List.mem_cons_self b rfl
  have hba : Lib.BuilderAt 84 5 w0.w.heap.size b (.pointer none) [] w := ⟨hB, _, hbox, ⟨rfl, .inl ⟨rfl, rfl⟩⟩, by simp [Value.ownBlock]⟩
  refine wpList_call (xs := [a1, a2]) hf hc ha (txt_WriteString w0.w.heap.size b [] s w hba (by simp; omega) st.base.size) ?_
  rintro e w' ⟨rfl, ⟨_, v, hbk, hown, hne⟩, hbel⟩
  refine ⟨_, rfl, ?_⟩
  obtain ⟨ad, cap, rfl⟩ : ∃ ad cap, v = .slice ad s.size cap := by
    rcases hown.2 with ⟨hv, hz⟩ | ⟨g, cap, cur, hv, _⟩
    · rw [List.nil_append, Lib.strCells_length] at hz; omega
    · rw [List.nil_append, Lib.strCells_length] at hv; exact ⟨_, _, hv⟩
  rw [List.nil_append, Lib.strCells_length] at hown
  refine k ad cap w' ⟨st.base.trans hbel, ?_, ?_, ?_, fun p hp => (by cases hp)⟩
  · intro r hr
    rcases List.mem_cons.1 hr with rfl | hr
    · exact hbk
    · obtain rfl := List.mem_singleton.1 hr
      refine ⟨hown.1, ?_⟩
      rcases hown.2 with h | ⟨g, cap', cur, h1, h2, h3⟩
      · exact .inl h
      · exact .inr ⟨g, cap', cur, h1, Nat.zero_le _, h3⟩
  · intro r hr i hi
    rcases List.mem_cons.1 hr with rfl | hr
    · obtain rfl : b = i := by simpa [box] using hi
      exact hB
    · obtain rfl := List.mem_singleton.1 hr
      exact (hown.lt i hi).1
  · refine List.Pairwise.cons ?_ (List.Pairwise.cons (fun _ h => by cases h) List.Pairwise.nil)
    intro r hr i hi hk
    obtain rfl := List.mem_singleton.1 hr
    obtain rfl : b = i := by simpa [box] using hi
    exact hne hk
theorem JL_bstring {x a1 : Operand} {ts : Array TypeId} {b : Nat} {s : ByteArray} {ad : Option Addr} {cap : Nat} (hf : Ev fr x (.func (.func 58) #[] #[])) (hc : callable Tryd.prog 58 = true) (ha : EvL fr [a1] [.pointer (some ⟨b, 0, none⟩)]) (h0 : 0 < s.size)
    (k : JL Tryd.prog ops Q w0 [] [] rest (upd fr d (.string s))) :
    JL Tryd.prog ops Q w0 [box b 84 [.pointer (some ⟨b, 0, none⟩), .slice ad s.size cap], osl ad s.size cap 5 1 (Lib.strCells s)] [] (⟨some d, .call { callee := .value x, args := #[a1], argTypes := ts }, ty, pos, aft, none⟩ :: rest) fr := by
  intro w st
  have hbox : w.heap[b]? = some (.cells #[.pointer (some ⟨b, 0, none⟩), .slice ad s.size cap] 84 (0, 0)) := st.own _ List.mem_cons_self
  have hB : w0.w.heap.size ≤ b := st.fresh _ List.mem_cons_self b rfl
  have ho : (osl ad s.size cap 5 1 (Lib.strCells s)).holds w := st.own _ (List.mem_cons_of_mem _ List.mem_cons_self)
  have hne : (Value.slice ad s.size cap).ownBlock ≠ some b := by
    have := List.rel_of_pairwise_cons st.dist List.mem_cons_self b rfl
    exact this
  have hown : w.ownsRow w0.w.heap.size 5 1 (.slice ad s.size cap) (Lib.strCells s).length (Lib.strCells s) := by
    rw [Lib.strCells_length]
    refine ⟨ho.1, ?_⟩
    rcases ho.2 with h | ⟨g, cap', cur, h1, h2, h3⟩
    · exact .inl h
    · refine .inr ⟨g, cap', cur, h1, ?_, h3⟩
      exact st.fresh _ (List.mem_cons_of_mem _ List.mem_cons_self) g (by show (Value.slice ad s.size cap).ownBlock = some g; rw [h1]; rfl)
  have hba : Lib.BuilderAt 84 5 w0.w.heap.size b (.pointer (some ⟨b, 0, none⟩)) (Lib.byteCells s.data.toList) w := ⟨hB, _, hbox, hown, hne⟩
  refine wpList_call (xs := [a1]) hf hc ha (txt_String w0.w.heap.size b s.data.toList w hba (fun h => by
    have e : s.size = s.data.toList.length := by show s.data.size = _; rw [Array.length_toList]
    rw [e, h] at h0; exact absurd h0 (by decide))) ?_
  rintro e w' ⟨rfl, hbel⟩
  refine ⟨_, rfl, ?_⟩
  have := k w' ⟨st.base.trans hbel, fun r hr => (by cases hr), fun r hr => (by cases hr), List.Pairwise.nil, fun p hp => (by cases hp)⟩
  simpa using this
/-- FormatUint gives s for x. -/
def FmtAt (x : Nat) (s : ByteArray) : Prop := ∀ w, Calls Tryd.prog 55 #[.int .u64 (x : Nat), .int .i64 10] w fun e w' => e = .returned (.string s) ∧ w' = w
theorem fmt_con {x : Nat} {s : ByteArray} (h : FmtAt x s) : ConF Tryd.prog 55 [.int .u64 (x : Nat), .int .i64 10] [] (fun v φo => v = .string s ∧ φo = []) := by
  intro w hin
  refine (h w).mono ?_
  rintro e w' ⟨rfl, rfl⟩
  exact ⟨_, [], rfl, ⟨rfl, rfl⟩, Below.refl _ _, fun p hp => (by cases hp)⟩
def TxtAt (x : Nat) (s : ByteArray) : Prop := 0 < x ∧ x < 1000000000 ∧ FmtAt x s ∧ 0 < s.size ∧ s.size ≤ 1000
theorem txtAt20 : TxtAt 20 ⟨#[50, 48]⟩ := ⟨by decide, by decide, txt_small20, by decide, by decide⟩
theorem txtAt60 : TxtAt 60 ⟨#[54, 48]⟩ := ⟨by decide, by decide, txt_small60, by decide, by decide⟩
theorem txtAt50 : TxtAt 50 ⟨#[53, 48]⟩ := ⟨by decide, by decide, txt_small50, by decide, by decide⟩
theorem txtAt1 : TxtAt 1 ⟨#[49]⟩ := ⟨by decide, by decide, txt_small1, by decide, by decide⟩
/-- What the text of one limb's loop keeps. -/
def TxtI (b : Nat) (s : ByteArray) (k : Nat) (pa : Value) (ad : Option Addr) (m cap : Nat) (cs : List Value) : Prop :=
  (k = 1 ∧ pa = .pointer none ∧ ad = none ∧ m = 0 ∧ cap = 0 ∧ cs = []) ∨ (k = 0 ∧ pa = .pointer (some ⟨b, 0, none⟩) ∧ m = s.size ∧ cs = Lib.strCells s)
theorem limbs_one {x : Nat} (h0 : 0 < x) (h : x < 1000000000) : (limbsOf x).length = 1 := by
  have h1 := limbsOf_len_pos h0
  have h2 : (limbsOf x).length ≤ 1 := limbsOf_len_of_lt (by omega)
  omega
end
/-- Limbs as they come. -/
structure RIn (n : Nat) (L : List Nat) (m : Nat) (M : List Nat) : Prop where
  l1 : L.length = n
  u1 : U32 L
  l2 : M.length = m
  u2 : U32 M
theorem RIn.fin {n m : Nat} {L M : List Nat} (r : RIn n L m M) {s : Bool} (h1 : n ≤ 4) (h2 : m ≤ 4) : FIn s n L m M (mkq s (val L) (val M)) 4 :=
  ⟨⟨r.l1, r.u1, rfl, h1⟩, ⟨r.l2, r.u2, rfl, h2⟩, rfl⟩
end Go.Fw
