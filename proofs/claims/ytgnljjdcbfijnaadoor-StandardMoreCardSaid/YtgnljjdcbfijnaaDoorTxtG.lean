/- Texts of numbers, whatever their digits: under the view of the table of powers. -/
import Derived.Test.YtgnljjdcbfijnaaDoorTxtF
namespace Go.Proofs
open Go.RowKit Go.Sort Go.Lib
set_option maxHeartbeats 2000000 in
set_option maxRecDepth 100000 in
theorem txt_FormatUint_small (i : Nat) (h : i < 100) (w : World) :
    Calls Tryd.prog 88 #[.int .u64 (i : Nat), .int .i64 10] w fun e w' => e = .returned (.string ⟨(Lib.decDigits i).toArray⟩) ∧ w' = w := by
  go_enter Tryd.func88, Tryd.ntmps88
  go_wp2_with (go_at_call 101; refine (Tryd.internal_strconv_small i h _).mono ?_; rintro e w' ⟨rfl, rfl⟩)
  go_ret
  exact ⟨rfl, rfl⟩
theorem txt_below (w : World) (q : Nat) (os : Array Obj) : Below w.heap.size w (grow (w.drewN q) os) := by
  refine ⟨?_, ?_, ?_, ?_, fun k hk => ?_⟩
  · simp [grow, World.drewN]
  · simp [grow, World.drewN]
  · simp [grow, World.drewN]
  · simp [grow, World.drewN]
  · simp [grow, World.drewN, Array.getElem?_append_left hk]
set_option maxHeartbeats 2000000 in
set_option maxRecDepth 100000 in
theorem txt_FormatUint_any (u : Nat) (hu64 : u < 18446744073709551616) (w : World) (htab : Lib.TabIs Tryd.prog w "internal/strconv.uint64pow10" .u64 Lib.pow10Tab) :
    Calls Tryd.prog 72 #[.int .u64 (u : Nat), .int .i64 10] w fun e w' => e = .returned (.string ⟨(Lib.decDigits u).toArray⟩) ∧ Below w.heap.size w w' := by
  have key : Calls Tryd.prog 88 #[.int .u64 (u : Nat), .int .i64 10] w fun e w' => e = .returned (.string ⟨(Lib.decDigits u).toArray⟩) ∧ ∃ k os, w' = grow (w.drewN k) os := by
    rcases Nat.lt_or_ge u 100 with h | h
    · refine (txt_FormatUint_small u h w).mono ?_
      rintro e w' ⟨rfl, rfl⟩
      exact ⟨rfl, 0, #[], by simp [World.drewN_zero]⟩
    · exact txt_FormatUint u h hu64 w htab
  go_enter Tryd.func72, Tryd.ntmps72
  go_wp2_with (go_at_call 88; refine key.mono ?_; rintro e w' ⟨rfl, k, os, rfl⟩)
  go_ret
  exact ⟨rfl, txt_below w k os⟩
end Go.Proofs
namespace Go.Fw
open Go Go.RowKit Go.Proofs Go.Nat9
/-- the table of powers lies where start-up laid it -/
def vTab : VP where
  holds X w := Lib.TabIs Tryd.prog w "internal/strconv.uint64pow10" .u64 Lib.pow10Tab ∧ ¬ X 0 ∧ 0 < w.heap.size
  mono X X' w w' h hs hb hX := by
    obtain ⟨h1, h2, h3⟩ := h
    refine ⟨?_, fun h => h2 (hX _ h3 h), by omega⟩
    have hg : Tryd.prog.globalNamed "internal/strconv.uint64pow10" = some 0 := by kernel_rfl
    unfold Lib.TabIs World.var? at *
    rw [hg] at h1 ⊢
    simp only [Option.bind_some] at h1 ⊢
    rw [hb _ h3 h2]; exact h1
def dig (x : Nat) : ByteArray := ⟨(Lib.decDigits x).toArray⟩
theorem fmtT_con {x : Nat} (h : x < 18446744073709551616) : ConF Tryd.prog 72 [.int .u64 (x : Nat), .int .i64 10] [vTab] (fun v φo => v = .string (dig x) ∧ φo = []) := by
  intro w hin
  have ht := hin vTab (by simp)
  refine (txt_FormatUint_any x h w ht.1).mono ?_
  rintro e w' ⟨rfl, hb⟩
  exact ⟨_, [], rfl, ⟨rfl, rfl⟩, hb, fun p hp => (by cases hp)⟩
theorem dig_size (x : Nat) : (dig x).size = Lib.nDigits x := by
  show (Lib.decDigits x).toArray.size = _
  rw [List.size_toArray]; exact Lib.decDigits_length x
theorem dig_pos (x : Nat) : 0 < (dig x).size := by rw [dig_size]; exact Lib.nDigits_pos x
theorem nDigits_le (k : Nat) : ∀ (u : Nat), u < 10 ^ (k + 1) → Lib.nDigits u ≤ k + 1 := by
  induction k with
  | zero => intro u h; rw [Lib.nDigits_small (by simpa using h)]; exact Nat.le_refl _
  | succ k ih =>
    intro u h
    by_cases h10 : u < 10
    · rw [Lib.nDigits_small h10]; omega
    · rw [Lib.nDigits_big h10]
      have : u / 10 < 10 ^ (k + 1) := Nat.div_lt_of_lt_mul (by rw [Nat.pow_succ] at h; omega)
      have := ih _ this
      omega
theorem dig_le {x : Nat} (h : x < 1000000000) : (dig x).size ≤ 9 := by rw [dig_size]; exact nDigits_le 8 x (by omega)
end Go.Fw
