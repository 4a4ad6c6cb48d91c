/- Chapter 18: '==' of pairs, keys of maps, as the program's types have them. -/
import Derived.Test.YtfkfmpfohaomhaaGreatFwMN
import Derived.Test.YtfkfmpfohaomhaaGreatFwT
import Derived.Test.YtfkfmpfohaomhaaGreatProg
namespace Go.Fw.K
open Go Go.RowKit Go.Proofs Go.Fw
theorem eqPair : EqP Tryz.prog 57 := by
  intro x y p q w
  have u3 := Tryz.underlying3
  have a3 := Tryz.isAgg3
  have z3 := Tryz.sizeOf3
  have hS : Tryz.prog.underlying 57 = some (.struct (Tryz.prog.fieldsOf 57)) := by kernel_rfl
  have hp : Tryz.prog.stoodInHeld 57 = false := by kernel_rfl
  have hm : Tryz.prog.eqGuardType Tryz.prog.depth 57 = false := by kernel_rfl
  obtain ⟨a, b⟩ := p
  obtain ⟨c, d⟩ := q
  refine ⟨⟨run_eqGuard_agg w .eql _ x y _ _ hm, ?_⟩, run_eqGuard_agg w .neq _ x y _ _ hm, ?_⟩
  · rw [run_eql_struct, show (10000 : Nat) = 9999 + 1 from rfl, run_equalIn_agg w 9999 57 _ _ hS hp]
    simp only [Program.fieldsOf, Tryz.underlying57]
    go_simp
    by_cases h1 : a = c <;> by_cases h2 : b = d <;> simp [h1, h2]
  · rw [run_neq_struct, show (10000 : Nat) = 9999 + 1 from rfl, run_equalIn_agg w 9999 57 _ _ hS hp]
    simp only [Program.fieldsOf, Tryz.underlying57]
    go_simp
    by_cases h1 : a = c <;> by_cases h2 : b = d <;> simp [h1, h2]
theorem equalPair (p q : Pr) (w : World) : (Op.equal 57 (pv p) (pv q)).run Tryz.prog w = .ok (decide (p = q)) w := by
  have u3 := Tryz.underlying3
  have a3 := Tryz.isAgg3
  have z3 := Tryz.sizeOf3
  have hS : Tryz.prog.underlying 57 = some (.struct (Tryz.prog.fieldsOf 57)) := by kernel_rfl
  have hp : Tryz.prog.stoodInHeld 57 = false := by kernel_rfl
  obtain ⟨a, b⟩ := p
  obtain ⟨c, d⟩ := q
  rw [show Op.equal 57 (pv (a, b)) (pv (c, d)) = Op.equalIn (9999 + 1) 57 (pv (a, b)) (pv (c, d)) from rfl, run_equalIn_agg w 9999 57 _ _ hS hp]
  simp only [Program.fieldsOf, Tryz.underlying57]
  go_simp
  by_cases h1 : a = c <;> by_cases h2 : b = d <;> simp [h1, h2]
theorem keyPair : KeyT Tryz.prog 57 pv where
  inj {a b} h := by
    simp only [Value.agg.injEq] at h
    have h1 := congrArg (fun x : Array Value => x.toList) h
    simp at h1
    exact Prod.ext h1.1 h1.2
  check w em a := by
    have u3 := Tryz.underlying3
    have a3 := Tryz.isAgg3
    have z3 := Tryz.sizeOf3
    have hk : ∀ n x, (Instr.checkKey em (n + 1) 3 (iv x)).run Tryz.prog w = .ok () w := fun n x => MapKept.run_checkKey u3 (by simp [MapKept.IsKey]) em n
    have key : ∀ n, (Instr.checkKey em (n + 1 + 1) 57 (pv a)).run Tryz.prog w = .ok () w := fun n => by
      rw [Instr.checkKey]
      simp [run_underlying Tryz.underlying57, go_sem, a3, z3, hk]
    exact key 9998
  find w a es hes := by
    have key : ∀ (es : List MapEntry) (i : Nat), (∀ e ∈ es, ∃ b, e.key = pv b) →
        ((Instr.findAsking 57 (pv a) es i).run Tryz.prog w = .ok none w ∧ ∀ e ∈ es, e.key ≠ pv a) ∨ ∃ j e, (Instr.findAsking 57 (pv a) es i).run Tryz.prog w = .ok (some (i + j, e.val)) w ∧ es[j]? = some e ∧ e.key = pv a := by
      intro es
      induction es with
      | nil => exact fun i _ => .inl ⟨rfl, fun e he => by cases he⟩
      | cons e es ih =>
        intro i h
        obtain ⟨b, hb⟩ := h e List.mem_cons_self
        have he := equalPair a b w
        rw [← hb] at he
        by_cases hab : a = b
        · subst hab
          refine .inr ⟨0, e, ?_, rfl, hb⟩
          simp [Instr.findAsking, he]
        · rcases ih (i + 1) (fun x hx => h x (List.mem_cons_of_mem _ hx)) with ⟨h1, h2⟩ | ⟨j, e', h1, h2, h3⟩
          · refine .inl ⟨?_, fun x hx => ?_⟩
            · simp [Instr.findAsking, he, hab, h1]
            · rcases List.mem_cons.1 hx with rfl | hx
              · rw [hb]; intro e'; simp at e'; exact hab (Prod.ext e'.1.symm e'.2.symm)
              · exact h2 x hx
          · refine .inr ⟨j + 1, e', ?_, by simpa using h2, h3⟩
            simp [Instr.findAsking, he, hab, h1]; omega
    have e0 : (Instr.findKey 57 (pv a) es).run Tryz.prog w = (Instr.findAsking 57 (pv a) es).run Tryz.prog w := by
      cases es with
      | nil => simp [Instr.findKey, Instr.findNow, Instr.findAsking, run_underlying Tryz.underlying57]
      | cons e es => simp [Instr.findKey, Instr.findNow, Instr.sameNow, run_underlying Tryz.underlying57]
    rw [e0]
    simpa using key es 0 hes
  stays w a := by
    have : Instr.sameBits 10000 (pv a) (pv a) = true := by
      rw [show (10000 : Nat) = 9998 + 1 + 1 from rfl]
      simp [Instr.sameBits]
    simp [Instr.keyThatStays, this]
theorem keyInt : KeyT Tryz.prog 3 iv := KeyT.int Tryz.underlying3
theorem zvInt : zvOf Tryz.prog 3 = some (iv 0) := by kernel_rfl
theorem zvBool : zvOf Tryz.prog 4 = some (bv false) := by kernel_rfl
end Go.Fw.K
