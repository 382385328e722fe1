-- By a program of this session (wip/tools/mkprint.py), for this claim.
import Derived.Test.YtkjflclkjdbmoaaPExecSlotsx0
namespace Go.Proofs.Ytkjflclkjdbmoaa.PExecSlots
open Go.RowKit Go.Proofs.YtkjflclkjdbmoaaW.PrintWords Go.Proofs.YtkjflclkjdbmoaaW.PrintLast Go.Proofs.YtkjflclkjdbmoaaW.PrintMore
attribute [local go_sem] max2_int min2_int max_two min_two max_three min_three max_four min_four   -- for this text's walks alone
set_option linter.unusedVariables false
set_option linter.unusedSimpArgs false

/-! ### cubbyref07_bare: function 32 (by hand) -/
set_option maxHeartbeats 4000000 in
set_option maxRecDepth 100000 in
theorem cubbyref07_bare.calls (op d a b : Int) (nm : ByteArray) (args : List Int) (Ag : Option Addr) (cg : Nat) (h1 : 1 ≤ op) (h2 : op ≤ 14) (w : World) :
    Calls Try.prog 32 #[.agg #[.int .i64 op, .int .i64 d, .int .i64 a, .int .i64 b, .string nm, .slice Ag args.length cg]] w fun e w' => e = .returned (.bool (Ir.bare op d a b nm args)) ∧ Below w.heap.size w w' := by
  generalize hn : args.length = n
  have fin : ∀ (r : Bool), Ir.bare op d a b nm args = r → (∀ w : World, Calls Try.prog 32 #[.agg #[.int .i64 op, .int .i64 d, .int .i64 a, .int .i64 b, .string nm, .slice Ag n cg]] w fun e w' => e = .returned (.bool r) ∧ Below w.heap.size w w') → Calls Try.prog 32 #[.agg #[.int .i64 op, .int .i64 d, .int .i64 a, .int .i64 b, .string nm, .slice Ag n cg]] w fun e w' => e = .returned (.bool (Ir.bare op d a b nm args)) ∧ Below w.heap.size w w' := fun r hr h => by rw [hr]; exact h w
  have hn' : args.length = n := hn
  clear hn
  rcases Ir.ops op h1 h2 with rfl | rfl | rfl | rfl | rfl | rfl | rfl | rfl | rfl | rfl | rfl | rfl | rfl | rfl
  · by_cases hnm : nm = ⟨#[]⟩
    · subst hnm
      by_cases hz : 0 < n
      · have hz2 : (0 : Int) < (n : Int) := by omega
        refine fin false (by unfold Ir.bare; simp [hz, hn']) (fun w => ?_)
        clear fin
        go_enter Try.func32, Try.ntmps32
        go_wp2
        go_ret
        exact ⟨by first | rfl | simp, (Below.refl _ _).alloc (Nat.le_refl _) _⟩
      · have hz2 : ¬ (0 : Int) < (n : Int) := by omega
        have hz3 : n = 0 := by omega
        subst hz3
        by_cases e1 : b = 0
        · subst e1
          refine fin true (by unfold Ir.bare; simp [hn']) (fun w => ?_)
          clear fin
          go_enter Try.func32, Try.ntmps32
          go_wp2
          go_ret
          exact ⟨by first | rfl | simp, (Below.refl _ _).alloc (Nat.le_refl _) _⟩
        · have e2 : (b == 0) = false := beq_eq_false_iff_ne.2 e1
          have e3 : decide (b = 0) = false := decide_eq_false e1
          refine fin false (by unfold Ir.bare; simp [hn', e1]) (fun w => ?_)
          clear fin
          go_enter Try.func32, Try.ntmps32
          go_wp2
          go_ret
          exact ⟨by first | rfl | simp, (Below.refl _ _).alloc (Nat.le_refl _) _⟩
    · have hm1 : ¬ nm.toList = [] := fun e => hnm (by rw [ByteArray.toList_eq] at e; exact ByteArray.ext (Array.toList_inj.1 e))
      have hm2 : (!nm.toList.isEmpty) = true := by simpa using hm1
      refine fin false (by unfold Ir.bare; simp [hnm]) (fun w => ?_)
      clear fin
      go_enter Try.func32, Try.ntmps32
      go_wp2
      go_ret
      exact ⟨by first | rfl | simp, (Below.refl _ _).alloc (Nat.le_refl _) _⟩
  · by_cases hnm : nm = ⟨#[]⟩
    · subst hnm
      by_cases hz : 0 < n
      · have hz2 : (0 : Int) < (n : Int) := by omega
        refine fin false (by unfold Ir.bare; simp [hz, hn']) (fun w => ?_)
        clear fin
        go_enter Try.func32, Try.ntmps32
        go_wp2
        go_ret
        exact ⟨by first | rfl | simp, (Below.refl _ _).alloc (Nat.le_refl _) _⟩
      · have hz2 : ¬ (0 : Int) < (n : Int) := by omega
        have hz3 : n = 0 := by omega
        subst hz3
        by_cases e1 : b = 0
        · subst e1
          refine fin true (by unfold Ir.bare; simp [hn']) (fun w => ?_)
          clear fin
          go_enter Try.func32, Try.ntmps32
          go_wp2
          go_ret
          exact ⟨by first | rfl | simp, (Below.refl _ _).alloc (Nat.le_refl _) _⟩
        · have e2 : (b == 0) = false := beq_eq_false_iff_ne.2 e1
          have e3 : decide (b = 0) = false := decide_eq_false e1
          refine fin false (by unfold Ir.bare; simp [hn', e1]) (fun w => ?_)
          clear fin
          go_enter Try.func32, Try.ntmps32
          go_wp2
          go_ret
          exact ⟨by first | rfl | simp, (Below.refl _ _).alloc (Nat.le_refl _) _⟩
    · have hm1 : ¬ nm.toList = [] := fun e => hnm (by rw [ByteArray.toList_eq] at e; exact ByteArray.ext (Array.toList_inj.1 e))
      have hm2 : (!nm.toList.isEmpty) = true := by simpa using hm1
      refine fin false (by unfold Ir.bare; simp [hnm]) (fun w => ?_)
      clear fin
      go_enter Try.func32, Try.ntmps32
      go_wp2
      go_ret
      exact ⟨by first | rfl | simp, (Below.refl _ _).alloc (Nat.le_refl _) _⟩
  · by_cases hnm : nm = ⟨#[]⟩
    · subst hnm
      by_cases hz : 0 < n
      · have hz2 : (0 : Int) < (n : Int) := by omega
        refine fin false (by unfold Ir.bare; simp [hz, hn']) (fun w => ?_)
        clear fin
        go_enter Try.func32, Try.ntmps32
        go_wp2
        go_ret
        exact ⟨by first | rfl | simp, (Below.refl _ _).alloc (Nat.le_refl _) _⟩
      · have hz2 : ¬ (0 : Int) < (n : Int) := by omega
        have hz3 : n = 0 := by omega
        subst hz3
        refine fin true (by unfold Ir.bare; simp [hn']) (fun w => ?_)
        clear fin
        go_enter Try.func32, Try.ntmps32
        go_wp2
        go_ret
        exact ⟨by first | rfl | simp, (Below.refl _ _).alloc (Nat.le_refl _) _⟩
    · have hm1 : ¬ nm.toList = [] := fun e => hnm (by rw [ByteArray.toList_eq] at e; exact ByteArray.ext (Array.toList_inj.1 e))
      have hm2 : (!nm.toList.isEmpty) = true := by simpa using hm1
      refine fin false (by unfold Ir.bare; simp [hnm]) (fun w => ?_)
      clear fin
      go_enter Try.func32, Try.ntmps32
      go_wp2
      go_ret
      exact ⟨by first | rfl | simp, (Below.refl _ _).alloc (Nat.le_refl _) _⟩
  · by_cases hnm : nm = ⟨#[]⟩
    · subst hnm
      by_cases hz : 0 < n
      · have hz2 : (0 : Int) < (n : Int) := by omega
        refine fin false (by unfold Ir.bare; simp [hz, hn']) (fun w => ?_)
        clear fin
        go_enter Try.func32, Try.ntmps32
        go_wp2
        go_ret
        exact ⟨by first | rfl | simp, (Below.refl _ _).alloc (Nat.le_refl _) _⟩
      · have hz2 : ¬ (0 : Int) < (n : Int) := by omega
        have hz3 : n = 0 := by omega
        subst hz3
        refine fin true (by unfold Ir.bare; simp [hn']) (fun w => ?_)
        clear fin
        go_enter Try.func32, Try.ntmps32
        go_wp2
        go_ret
        exact ⟨by first | rfl | simp, (Below.refl _ _).alloc (Nat.le_refl _) _⟩
    · have hm1 : ¬ nm.toList = [] := fun e => hnm (by rw [ByteArray.toList_eq] at e; exact ByteArray.ext (Array.toList_inj.1 e))
      have hm2 : (!nm.toList.isEmpty) = true := by simpa using hm1
      refine fin false (by unfold Ir.bare; simp [hnm]) (fun w => ?_)
      clear fin
      go_enter Try.func32, Try.ntmps32
      go_wp2
      go_ret
      exact ⟨by first | rfl | simp, (Below.refl _ _).alloc (Nat.le_refl _) _⟩
  · by_cases hnm : nm = ⟨#[]⟩
    · subst hnm
      by_cases hz : 0 < n
      · have hz2 : (0 : Int) < (n : Int) := by omega
        refine fin false (by unfold Ir.bare; simp [hz, hn']) (fun w => ?_)
        clear fin
        go_enter Try.func32, Try.ntmps32
        go_wp2
        go_ret
        exact ⟨by first | rfl | simp, (Below.refl _ _).alloc (Nat.le_refl _) _⟩
      · have hz2 : ¬ (0 : Int) < (n : Int) := by omega
        have hz3 : n = 0 := by omega
        subst hz3
        refine fin true (by unfold Ir.bare; simp [hn']) (fun w => ?_)
        clear fin
        go_enter Try.func32, Try.ntmps32
        go_wp2
        go_ret
        exact ⟨by first | rfl | simp, (Below.refl _ _).alloc (Nat.le_refl _) _⟩
    · have hm1 : ¬ nm.toList = [] := fun e => hnm (by rw [ByteArray.toList_eq] at e; exact ByteArray.ext (Array.toList_inj.1 e))
      have hm2 : (!nm.toList.isEmpty) = true := by simpa using hm1
      refine fin false (by unfold Ir.bare; simp [hnm]) (fun w => ?_)
      clear fin
      go_enter Try.func32, Try.ntmps32
      go_wp2
      go_ret
      exact ⟨by first | rfl | simp, (Below.refl _ _).alloc (Nat.le_refl _) _⟩
  · by_cases hnm : nm = ⟨#[]⟩
    · subst hnm
      by_cases hz : 0 < n
      · have hz2 : (0 : Int) < (n : Int) := by omega
        refine fin false (by unfold Ir.bare; simp [hz, hn']) (fun w => ?_)
        clear fin
        go_enter Try.func32, Try.ntmps32
        go_wp2
        go_ret
        exact ⟨by first | rfl | simp, (Below.refl _ _).alloc (Nat.le_refl _) _⟩
      · have hz2 : ¬ (0 : Int) < (n : Int) := by omega
        have hz3 : n = 0 := by omega
        subst hz3
        refine fin true (by unfold Ir.bare; simp [hn']) (fun w => ?_)
        clear fin
        go_enter Try.func32, Try.ntmps32
        go_wp2
        go_ret
        exact ⟨by first | rfl | simp, (Below.refl _ _).alloc (Nat.le_refl _) _⟩
    · have hm1 : ¬ nm.toList = [] := fun e => hnm (by rw [ByteArray.toList_eq] at e; exact ByteArray.ext (Array.toList_inj.1 e))
      have hm2 : (!nm.toList.isEmpty) = true := by simpa using hm1
      refine fin false (by unfold Ir.bare; simp [hnm]) (fun w => ?_)
      clear fin
      go_enter Try.func32, Try.ntmps32
      go_wp2
      go_ret
      exact ⟨by first | rfl | simp, (Below.refl _ _).alloc (Nat.le_refl _) _⟩
  · by_cases hnm : nm = ⟨#[]⟩
    · subst hnm
      by_cases hz : 0 < n
      · have hz2 : (0 : Int) < (n : Int) := by omega
        refine fin false (by unfold Ir.bare; simp [hz, hn']) (fun w => ?_)
        clear fin
        go_enter Try.func32, Try.ntmps32
        go_wp2
        go_ret
        exact ⟨by first | rfl | simp, (Below.refl _ _).alloc (Nat.le_refl _) _⟩
      · have hz2 : ¬ (0 : Int) < (n : Int) := by omega
        have hz3 : n = 0 := by omega
        subst hz3
        refine fin true (by unfold Ir.bare; simp [hn']) (fun w => ?_)
        clear fin
        go_enter Try.func32, Try.ntmps32
        go_wp2
        go_ret
        exact ⟨by first | rfl | simp, (Below.refl _ _).alloc (Nat.le_refl _) _⟩
    · have hm1 : ¬ nm.toList = [] := fun e => hnm (by rw [ByteArray.toList_eq] at e; exact ByteArray.ext (Array.toList_inj.1 e))
      have hm2 : (!nm.toList.isEmpty) = true := by simpa using hm1
      refine fin false (by unfold Ir.bare; simp [hnm]) (fun w => ?_)
      clear fin
      go_enter Try.func32, Try.ntmps32
      go_wp2
      go_ret
      exact ⟨by first | rfl | simp, (Below.refl _ _).alloc (Nat.le_refl _) _⟩
  · by_cases hnm : nm = ⟨#[]⟩
    · subst hnm
      by_cases hz : 0 < n
      · have hz2 : (0 : Int) < (n : Int) := by omega
        refine fin false (by unfold Ir.bare; simp [hz, hn']) (fun w => ?_)
        clear fin
        go_enter Try.func32, Try.ntmps32
        go_wp2
        go_ret
        exact ⟨by first | rfl | simp, (Below.refl _ _).alloc (Nat.le_refl _) _⟩
      · have hz2 : ¬ (0 : Int) < (n : Int) := by omega
        have hz3 : n = 0 := by omega
        subst hz3
        by_cases e1 : b = 0
        · subst e1
          refine fin true (by unfold Ir.bare; simp [hn']) (fun w => ?_)
          clear fin
          go_enter Try.func32, Try.ntmps32
          go_wp2
          go_ret
          exact ⟨by first | rfl | simp, (Below.refl _ _).alloc (Nat.le_refl _) _⟩
        · have e2 : (b == 0) = false := beq_eq_false_iff_ne.2 e1
          have e3 : decide (b = 0) = false := decide_eq_false e1
          refine fin false (by unfold Ir.bare; simp [hn', e1]) (fun w => ?_)
          clear fin
          go_enter Try.func32, Try.ntmps32
          go_wp2
          go_ret
          exact ⟨by first | rfl | simp, (Below.refl _ _).alloc (Nat.le_refl _) _⟩
    · have hm1 : ¬ nm.toList = [] := fun e => hnm (by rw [ByteArray.toList_eq] at e; exact ByteArray.ext (Array.toList_inj.1 e))
      have hm2 : (!nm.toList.isEmpty) = true := by simpa using hm1
      refine fin false (by unfold Ir.bare; simp [hnm]) (fun w => ?_)
      clear fin
      go_enter Try.func32, Try.ntmps32
      go_wp2
      go_ret
      exact ⟨by first | rfl | simp, (Below.refl _ _).alloc (Nat.le_refl _) _⟩
  · by_cases hnm : nm = ⟨#[]⟩
    · subst hnm
      by_cases hz : 0 < n
      · have hz2 : (0 : Int) < (n : Int) := by omega
        refine fin false (by unfold Ir.bare; simp [hz, hn']) (fun w => ?_)
        clear fin
        go_enter Try.func32, Try.ntmps32
        go_wp2
        go_ret
        exact ⟨by first | rfl | simp, (Below.refl _ _).alloc (Nat.le_refl _) _⟩
      · have hz2 : ¬ (0 : Int) < (n : Int) := by omega
        have hz3 : n = 0 := by omega
        subst hz3
        by_cases e1 : d = 0
        · subst e1
          refine fin true (by unfold Ir.bare; simp [hn']) (fun w => ?_)
          clear fin
          go_enter Try.func32, Try.ntmps32
          go_wp2
          go_ret
          exact ⟨by first | rfl | simp, (Below.refl _ _).alloc (Nat.le_refl _) _⟩
        · have e2 : (d == 0) = false := beq_eq_false_iff_ne.2 e1
          have e3 : decide (d = 0) = false := decide_eq_false e1
          refine fin false (by unfold Ir.bare; simp [hn', e1]) (fun w => ?_)
          clear fin
          go_enter Try.func32, Try.ntmps32
          go_wp2
          go_ret
          exact ⟨by first | rfl | simp, (Below.refl _ _).alloc (Nat.le_refl _) _⟩
    · have hm1 : ¬ nm.toList = [] := fun e => hnm (by rw [ByteArray.toList_eq] at e; exact ByteArray.ext (Array.toList_inj.1 e))
      have hm2 : (!nm.toList.isEmpty) = true := by simpa using hm1
      refine fin false (by unfold Ir.bare; simp [hnm]) (fun w => ?_)
      clear fin
      go_enter Try.func32, Try.ntmps32
      go_wp2
      go_ret
      exact ⟨by first | rfl | simp, (Below.refl _ _).alloc (Nat.le_refl _) _⟩
  · by_cases hnm : nm = ⟨#[]⟩
    · subst hnm
      by_cases hz : 0 < n
      · have hz2 : (0 : Int) < (n : Int) := by omega
        refine fin false (by unfold Ir.bare; simp [hz, hn']) (fun w => ?_)
        clear fin
        go_enter Try.func32, Try.ntmps32
        go_wp2
        go_ret
        exact ⟨by first | rfl | simp, (Below.refl _ _).alloc (Nat.le_refl _) _⟩
      · have hz2 : ¬ (0 : Int) < (n : Int) := by omega
        have hz3 : n = 0 := by omega
        subst hz3
        by_cases e1 : d = 0
        · subst e1
          by_cases e4 : b = 0
          · subst e4
            refine fin true (by unfold Ir.bare; simp [hn']) (fun w => ?_)
            clear fin
            go_enter Try.func32, Try.ntmps32
            go_wp2
            go_ret
            exact ⟨by first | rfl | simp, (Below.refl _ _).alloc (Nat.le_refl _) _⟩
          · have e2 : (b == 0) = false := beq_eq_false_iff_ne.2 e4
            have e3 : decide (b = 0) = false := decide_eq_false e4
            refine fin false (by unfold Ir.bare; simp [hn', e4]) (fun w => ?_)
            clear fin
            go_enter Try.func32, Try.ntmps32
            go_wp2
            go_ret
            exact ⟨by first | rfl | simp, (Below.refl _ _).alloc (Nat.le_refl _) _⟩
        · have e2 : (d == 0) = false := beq_eq_false_iff_ne.2 e1
          have e3 : decide (d = 0) = false := decide_eq_false e1
          refine fin false (by unfold Ir.bare; simp [hn', e1]) (fun w => ?_)
          clear fin
          go_enter Try.func32, Try.ntmps32
          go_wp2
          go_ret
          exact ⟨by first | rfl | simp, (Below.refl _ _).alloc (Nat.le_refl _) _⟩
    · have hm1 : ¬ nm.toList = [] := fun e => hnm (by rw [ByteArray.toList_eq] at e; exact ByteArray.ext (Array.toList_inj.1 e))
      have hm2 : (!nm.toList.isEmpty) = true := by simpa using hm1
      refine fin false (by unfold Ir.bare; simp [hnm]) (fun w => ?_)
      clear fin
      go_enter Try.func32, Try.ntmps32
      go_wp2
      go_ret
      exact ⟨by first | rfl | simp, (Below.refl _ _).alloc (Nat.le_refl _) _⟩
  · by_cases e1 : a = 0
    · subst e1
      by_cases e4 : b = 0
      · subst e4
        refine fin true (by unfold Ir.bare; simp [hn']) (fun w => ?_)
        clear fin
        go_enter Try.func32, Try.ntmps32
        go_wp2
        go_ret
        exact ⟨by first | rfl | simp, (Below.refl _ _).alloc (Nat.le_refl _) _⟩
      · have e2 : (b == 0) = false := beq_eq_false_iff_ne.2 e4
        have e3 : decide (b = 0) = false := decide_eq_false e4
        refine fin false (by unfold Ir.bare; simp [e4]) (fun w => ?_)
        clear fin
        go_enter Try.func32, Try.ntmps32
        go_wp2
        go_ret
        exact ⟨by first | rfl | simp, (Below.refl _ _).alloc (Nat.le_refl _) _⟩
    · have e2 : (a == 0) = false := beq_eq_false_iff_ne.2 e1
      have e3 : decide (a = 0) = false := decide_eq_false e1
      refine fin false (by unfold Ir.bare; simp [e1]) (fun w => ?_)
      clear fin
      go_enter Try.func32, Try.ntmps32
      go_wp2
      go_ret
      exact ⟨by first | rfl | simp, (Below.refl _ _).alloc (Nat.le_refl _) _⟩
  · by_cases hnm : nm = ⟨#[]⟩
    · subst hnm
      by_cases hz : 0 < n
      · have hz2 : (0 : Int) < (n : Int) := by omega
        refine fin false (by unfold Ir.bare; simp [hz, hn']) (fun w => ?_)
        clear fin
        go_enter Try.func32, Try.ntmps32
        go_wp2
        go_ret
        exact ⟨by first | rfl | simp, (Below.refl _ _).alloc (Nat.le_refl _) _⟩
      · have hz2 : ¬ (0 : Int) < (n : Int) := by omega
        have hz3 : n = 0 := by omega
        subst hz3
        by_cases e1 : d = 0
        · subst e1
          by_cases e4 : b = 0
          · subst e4
            refine fin true (by unfold Ir.bare; simp [hn']) (fun w => ?_)
            clear fin
            go_enter Try.func32, Try.ntmps32
            go_wp2
            go_ret
            exact ⟨by first | rfl | simp, (Below.refl _ _).alloc (Nat.le_refl _) _⟩
          · have e2 : (b == 0) = false := beq_eq_false_iff_ne.2 e4
            have e3 : decide (b = 0) = false := decide_eq_false e4
            refine fin false (by unfold Ir.bare; simp [hn', e4]) (fun w => ?_)
            clear fin
            go_enter Try.func32, Try.ntmps32
            go_wp2
            go_ret
            exact ⟨by first | rfl | simp, (Below.refl _ _).alloc (Nat.le_refl _) _⟩
        · have e2 : (d == 0) = false := beq_eq_false_iff_ne.2 e1
          have e3 : decide (d = 0) = false := decide_eq_false e1
          refine fin false (by unfold Ir.bare; simp [hn', e1]) (fun w => ?_)
          clear fin
          go_enter Try.func32, Try.ntmps32
          go_wp2
          go_ret
          exact ⟨by first | rfl | simp, (Below.refl _ _).alloc (Nat.le_refl _) _⟩
    · have hm1 : ¬ nm.toList = [] := fun e => hnm (by rw [ByteArray.toList_eq] at e; exact ByteArray.ext (Array.toList_inj.1 e))
      have hm2 : (!nm.toList.isEmpty) = true := by simpa using hm1
      refine fin false (by unfold Ir.bare; simp [hnm]) (fun w => ?_)
      clear fin
      go_enter Try.func32, Try.ntmps32
      go_wp2
      go_ret
      exact ⟨by first | rfl | simp, (Below.refl _ _).alloc (Nat.le_refl _) _⟩
  · by_cases hnm : nm = ⟨#[]⟩
    · subst hnm
      by_cases hz : 0 < n
      · have hz2 : (0 : Int) < (n : Int) := by omega
        refine fin false (by unfold Ir.bare; simp [hz, hn']) (fun w => ?_)
        clear fin
        go_enter Try.func32, Try.ntmps32
        go_wp2
        go_ret
        exact ⟨by first | rfl | simp, (Below.refl _ _).alloc (Nat.le_refl _) _⟩
      · have hz2 : ¬ (0 : Int) < (n : Int) := by omega
        have hz3 : n = 0 := by omega
        subst hz3
        refine fin true (by unfold Ir.bare; simp [hn']) (fun w => ?_)
        clear fin
        go_enter Try.func32, Try.ntmps32
        go_wp2
        go_ret
        exact ⟨by first | rfl | simp, (Below.refl _ _).alloc (Nat.le_refl _) _⟩
    · have hm1 : ¬ nm.toList = [] := fun e => hnm (by rw [ByteArray.toList_eq] at e; exact ByteArray.ext (Array.toList_inj.1 e))
      have hm2 : (!nm.toList.isEmpty) = true := by simpa using hm1
      refine fin false (by unfold Ir.bare; simp [hnm]) (fun w => ?_)
      clear fin
      go_enter Try.func32, Try.ntmps32
      go_wp2
      go_ret
      exact ⟨by first | rfl | simp, (Below.refl _ _).alloc (Nat.le_refl _) _⟩
  · by_cases hnm : nm = ⟨#[]⟩
    · subst hnm
      by_cases hz : 0 < n
      · have hz2 : (0 : Int) < (n : Int) := by omega
        refine fin false (by unfold Ir.bare; simp [hz, hn']) (fun w => ?_)
        clear fin
        go_enter Try.func32, Try.ntmps32
        go_wp2
        go_ret
        exact ⟨by first | rfl | simp, (Below.refl _ _).alloc (Nat.le_refl _) _⟩
      · have hz2 : ¬ (0 : Int) < (n : Int) := by omega
        have hz3 : n = 0 := by omega
        subst hz3
        by_cases e1 : d = 0
        · subst e1
          by_cases e4 : b = 0
          · subst e4
            refine fin true (by unfold Ir.bare; simp [hn']) (fun w => ?_)
            clear fin
            go_enter Try.func32, Try.ntmps32
            go_wp2
            go_ret
            exact ⟨by first | rfl | simp, (Below.refl _ _).alloc (Nat.le_refl _) _⟩
          · have e2 : (b == 0) = false := beq_eq_false_iff_ne.2 e4
            have e3 : decide (b = 0) = false := decide_eq_false e4
            refine fin false (by unfold Ir.bare; simp [hn', e4]) (fun w => ?_)
            clear fin
            go_enter Try.func32, Try.ntmps32
            go_wp2
            go_ret
            exact ⟨by first | rfl | simp, (Below.refl _ _).alloc (Nat.le_refl _) _⟩
        · have e2 : (d == 0) = false := beq_eq_false_iff_ne.2 e1
          have e3 : decide (d = 0) = false := decide_eq_false e1
          refine fin false (by unfold Ir.bare; simp [hn', e1]) (fun w => ?_)
          clear fin
          go_enter Try.func32, Try.ntmps32
          go_wp2
          go_ret
          exact ⟨by first | rfl | simp, (Below.refl _ _).alloc (Nat.le_refl _) _⟩
    · have hm1 : ¬ nm.toList = [] := fun e => hnm (by rw [ByteArray.toList_eq] at e; exact ByteArray.ext (Array.toList_inj.1 e))
      have hm2 : (!nm.toList.isEmpty) = true := by simpa using hm1
      refine fin false (by unfold Ir.bare; simp [hnm]) (fun w => ?_)
      clear fin
      go_enter Try.func32, Try.ntmps32
      go_wp2
      go_ret
      exact ⟨by first | rfl | simp, (Below.refl _ _).alloc (Nat.le_refl _) _⟩

/-! ### cubbyref07_Def: function 33 (by hand) -/
set_option maxHeartbeats 4000000 in
set_option maxRecDepth 100000 in
theorem cubbyref07_Def.calls (op d a b : Int) (nm : ByteArray) (n : Nat) (Ag : Option Addr) (cg : Nat) (h1 : 1 ≤ op) (h2 : op ≤ 14) (w : World) :
    Calls Try.prog 33 #[.agg #[.int .i64 op, .int .i64 d, .int .i64 a, .int .i64 b, .string nm, .slice Ag n cg]] w fun e w' => e = .returned (.int .i64 (Ir.df op d)) ∧ Below w.heap.size w w' := by
  rcases Ir.ops op h1 h2 with rfl | rfl | rfl | rfl | rfl | rfl | rfl | rfl | rfl | rfl | rfl | rfl | rfl | rfl
  all_goals
    clear h1 h2
    go_enter Try.func33, Try.ntmps33
    go_wp2
    go_ret
    exact ⟨rfl, (Below.refl _ _).alloc (Nat.le_refl _) _⟩

/-! ### cubbyref07_within: function 34 -/
def cubbyref07_within.l0 : Nat → List Int → Int → Int → Option (Bool)
  | 0, _, _, _ => none
  | k + 1, x0, x1, x5 => if x5 < (x0.length : Int) then (if 0 ≤ x5 then (if (rd x0 x5) < 0 then (some false) else (if (rd x0 x5) ≥ x1 then (some false) else (cubbyref07_within.l0 k x0 x1 (wrap64 (x5 + 1))))) else (none)) else (some true)
def cubbyref07_within.f (k : Nat) (l0 : List Int) (a1 : Int) : Option (Bool) := cubbyref07_within.l0 k l0 a1 0
theorem cubbyref07_within.mono_l : ∀ k, (∀ y0 y1 y2, LeO (cubbyref07_within.l0 k y0 y1 y2) (cubbyref07_within.l0 (k + 1) y0 y1 y2))
  | 0 => fun _ _ _ r h => by simp [cubbyref07_within.l0] at h
  | k + 1 => by
    have ih0 := cubbyref07_within.mono_l k
    · intro y0 y1 y2
      unfold cubbyref07_within.l0
      repeat' first
      | (with_reducible exact ih0 _ _ _)
      | (with_reducible exact LeO.refl _)
      | (with_reducible exact LeO.none _)
      | (with_reducible refine LeO.ite ?_ ?_)
      | (with_reducible refine LeO.bind ?_ (fun _ => ?_))
      | exact ih0 _ _ _
      | exact LeO.none _
      | refine LeO.ite ?_ ?_
      | refine LeO.bind ?_ (fun _ => ?_)
theorem cubbyref07_within.mono : ∀ a0 a1 k, LeO (cubbyref07_within.f k a0 a1) (cubbyref07_within.f (k + 1) a0 a1) := by
  intro a0 a1 k
  have ih0 := cubbyref07_within.mono_l k
  unfold cubbyref07_within.f
  repeat' first
      | (with_reducible exact ih0 _ _ _)
      | (with_reducible exact LeO.refl _)
      | (with_reducible exact LeO.none _)
      | (with_reducible refine LeO.ite ?_ ?_)
      | (with_reducible refine LeO.bind ?_ (fun _ => ?_))
      | exact ih0 _ _ _
      | exact LeO.none _
      | refine LeO.ite ?_ ?_
      | refine LeO.bind ?_ (fun _ => ?_)
set_option maxHeartbeats 8000000 in
set_option maxRecDepth 100000 in
theorem cubbyref07_within.calls (k : Nat) (A0 : Option Addr) (c0 : Nat) (l0 : List Int) (a1 : Int) (r : Bool) (w : World) (hr0 : Kd.C (Kd.int .i64) w A0 l0.length l0) (hc0 : l0.length ≤ c0) (h : cubbyref07_within.f k l0 a1 = some r) :
    Calls Try.prog 34 #[.slice A0 l0.length c0, .int .i64 a1] w fun e w' => e = .returned (.bool r) ∧ Drawn0 w w' := by
  have HR0 := Aside0.mk hr0
  have HC0 := Aside0.mk hc0
  clear hr0 hc0
  have H : (cubbyref07_within.l0 k l0 a1 0) = some r := h
  clear h
  have H' := Aside0.mk H
  clear H
  go_enter Try.func34, Try.ntmps34
  go_wp2
  go_loopg [5] k (fun kq v5 w' => ∃ (x5_1 : Int), v5 = .int .i64 x5_1 ∧ Aside0 (cubbyref07_within.l0 kq l0 a1 x5_1 = some r) ∧ Aside0 (kq ≤ k) ∧ Drawn0 w w')
  case atStart => exact ⟨(0), (by first | rfl | (simp; done) | (simp [*]; done)), H', ⟨Nat.le_refl _⟩, by repeat (first | exact Drawn0.refl _ | apply Drawn0.step)⟩
  case round =>
    clear H'
    try clear p2
    obtain ⟨x5_1, rfl, HA, HK1, ⟨m1, rfl⟩⟩ := hrel
    cases gk with
    | zero => exact absurd HA.out (by simp [cubbyref07_within.l0])
    | succ k1 =>
      have H := HA.out
      clear HA
      simp only [cubbyref07_within.l0] at H
      by_cases c3 : x5_1 < (l0.length : Int)
      · rw [if_pos c3] at H
        have c3b0 : decide (x5_1 < (l0.length : Int)) = true := decide_eq_true c3
        clear c3
        by_cases c4 : 0 ≤ x5_1
        · rw [if_pos c4] at H
          have c4b0 : decide (0 ≤ x5_1) = true := decide_eq_true c4
          clear c4
          by_cases c5 : (rd l0 x5_1) < 0
          · rw [if_pos c5] at H
            have c5b0 : decide ((rd l0 x5_1) < 0) = true := decide_eq_true c5
            clear c5
            obtain rfl := Option.some.inj H
            have p101 : 0 ≤ (x5_1 : Int) := of_decide_eq_true (by first | (with_reducible assumption) | assumption)
            have q101 : x5_1 < (l0.length : Int) := of_decide_eq_true (by first | (with_reducible assumption) | assumption)
            obtain ⟨ad101, e101, hx101_0⟩ := Kd.at_int HR0.out x5_1 p101 q101
            cases e101
            replace p101 := eq_true p101
            replace q101 := eq_true q101
            go_wp2
            go_ret
            exact ⟨by first | rfl | (simp; done) | (simp [*]; done), by repeat (first | exact Drawn0.refl _ | apply Drawn0.step)⟩
          · rw [if_neg c5] at H
            have c5b0 : decide ((rd l0 x5_1) < 0) = false := decide_eq_false c5
            clear c5
            by_cases c6 : (rd l0 x5_1) ≥ a1
            · rw [if_pos c6] at H
              have c6b0 : decide (a1 ≤ (rd l0 x5_1)) = true := decide_eq_true c6
              clear c6
              obtain rfl := Option.some.inj H
              have p101 : 0 ≤ (x5_1 : Int) := of_decide_eq_true (by first | (with_reducible assumption) | assumption)
              have q101 : x5_1 < (l0.length : Int) := of_decide_eq_true (by first | (with_reducible assumption) | assumption)
              obtain ⟨ad101, e101, hx101_0⟩ := Kd.at_int HR0.out x5_1 p101 q101
              cases e101
              replace p101 := eq_true p101
              replace q101 := eq_true q101
              have p102 : 0 ≤ (x5_1 : Int) := of_decide_eq_true (by first | (with_reducible assumption) | assumption)
              have q102 : x5_1 < (l0.length : Int) := of_decide_eq_true (by first | (with_reducible assumption) | assumption)
              obtain ⟨ad102, e102, hx102_0⟩ := Kd.at_int HR0.out x5_1 p102 q102
              obtain rfl : ad101 = ad102 := (by injection e102)
              replace p102 := eq_true p102
              replace q102 := eq_true q102
              go_wp2
              go_ret
              exact ⟨by first | rfl | (simp; done) | (simp [*]; done), by repeat (first | exact Drawn0.refl _ | apply Drawn0.step)⟩
            · rw [if_neg c6] at H
              have c6b0 : decide (a1 ≤ (rd l0 x5_1)) = false := decide_eq_false c6
              clear c6
              have H' := Aside0.mk H
              clear H
              have p101 : 0 ≤ (x5_1 : Int) := of_decide_eq_true (by first | (with_reducible assumption) | assumption)
              have q101 : x5_1 < (l0.length : Int) := of_decide_eq_true (by first | (with_reducible assumption) | assumption)
              obtain ⟨ad101, e101, hx101_0⟩ := Kd.at_int HR0.out x5_1 p101 q101
              cases e101
              replace p101 := eq_true p101
              replace q101 := eq_true q101
              have p102 : 0 ≤ (x5_1 : Int) := of_decide_eq_true (by first | (with_reducible assumption) | assumption)
              have q102 : x5_1 < (l0.length : Int) := of_decide_eq_true (by first | (with_reducible assumption) | assumption)
              obtain ⟨ad102, e102, hx102_0⟩ := Kd.at_int HR0.out x5_1 p102 q102
              obtain rfl : ad101 = ad102 := (by injection e102)
              replace p102 := eq_true p102
              replace q102 := eq_true q102
              go_wp2
              go_roundg k1
              case measure => have := HK1.out; omega
              case rel => exact ⟨(wrap64 (x5_1 + 1)), (by first | rfl | (simp; done) | (simp [*]; done)), H', ⟨by have := HK1.out; omega⟩, by repeat (first | exact Drawn0.refl _ | apply Drawn0.step)⟩
        · rw [if_neg c4] at H
          exact absurd H (by simp)
      · rw [if_neg c3] at H
        have c3b0 : decide (x5_1 < (l0.length : Int)) = false := decide_eq_false c3
        clear c3
        obtain rfl := Option.some.inj H
        go_wp2
        go_ret
        exact ⟨by first | rfl | (simp; done) | (simp [*]; done), by repeat (first | exact Drawn0.refl _ | apply Drawn0.step)⟩

/-! ### cubbyref07_Uses: function 35 (by hand) -/
theorem cubbyref07_Uses.flat (sz : Nat) : ∀ (cells : List (List Value)), (∀ c ∈ cells, c.length = sz) → ∀ (j i : Nat) (c : List Value), cells[j]? = some c → i < sz → cells.flatten[j * sz + i]? = c[i]?
  | [], _, j, i, c, hj, _ => by simp at hj
  | a :: l, h, 0, i, c, hj, hi => by
    have e : a = c := by simpa using hj
    subst e
    rw [List.flatten_cons, List.getElem?_append_left (by rw [h a List.mem_cons_self]; omega), Nat.zero_mul, Nat.zero_add]
  | a :: l, h, j + 1, i, c, hj, hi => by
    have hl := h a List.mem_cons_self
    rw [List.flatten_cons, List.getElem?_append_right (by rw [hl, Nat.add_mul]; omega), hl, show (j + 1) * sz + i - sz = j * sz + i by rw [Nat.add_mul]; omega]
    exact cubbyref07_Uses.flat sz l (fun c hc => h c (List.mem_cons_of_mem _ hc)) j i c (by simpa using hj) hi
/-- A row that lies in a block of its own. -/
theorem cubbyref07_Uses.C_block {α : Type} (d : Kd α) {W : World} {b : Nat} {t : TypeId} {xs : List α} (cells : List (List Value)) (h : W.heap[b]? = some (.cells cells.flatten.toArray t (0, 0))) (hl : cells.length = xs.length) (hn : xs.length ≤ 9223372036854775807)
    (hK : ∀ (j : Nat) (x : α) (c : List Value), xs[j]? = some x → cells[j]? = some c → d.K W x c) : d.C W (some ⟨b, 0, none⟩) xs.length xs := by
  have hsz : ∀ c ∈ cells, c.length = d.sz := by
    intro c hc
    obtain ⟨j, hj, rfl⟩ := List.getElem_of_mem hc
    exact d.K_len (hK j (xs[j]'(by omega)) _ (List.getElem?_eq_getElem (by omega)) (List.getElem?_eq_getElem hj))
  refine ⟨rfl, hn, fun _ => ⟨_, rfl, fun j p hj => ?_⟩⟩
  have hjl := (List.getElem?_eq_some_iff.1 hj).1
  have hc : cells[j]? = some (cells[j]'(by omega)) := List.getElem?_eq_getElem (by omega)
  have hk := hK j p _ hj hc
  refine ⟨_, d.K_len hk, hk, fun i u hu => ?_⟩
  have ea : (⟨b, 0, none⟩ : Addr).add (j * d.sz + i) = ⟨b, j * d.sz + i, none⟩ := by unfold Addr.add; split <;> simp_all
  have hil : i < d.sz := by rw [← d.K_len hk]; exact (List.getElem?_eq_some_iff.1 hu).1
  rw [ea, cell_of_row W b _ _ _ _ h, List.getElem?_toArray, cubbyref07_Uses.flat d.sz cells hsz j i _ hc hil]
  exact hu
theorem cubbyref07_Uses.noargs (W : World) : (Kd.int .i64).C W none 0 [] := ⟨rfl, Nat.zero_le _, fun h => absurd h (Nat.lt_irrefl 0)⟩
theorem cubbyref07_Uses.mkI {W : World} (o d a b : Int) (nm : ByteArray) (as_ : List Int) (Ag : Option Addr) (cg : Nat) (hl : as_.length ≤ cg) (h : (Kd.int .i64).C W Ag as_.length as_) : Rn.kI.K W ⟨o, d, a, b, nm, as_⟩ [.int .i64 o, .int .i64 d, .int .i64 a, .int .i64 b, .string nm, .slice Ag as_.length cg] :=
  ⟨[.int .i64 o], [.int .i64 d, .int .i64 a, .int .i64 b, .string nm, .slice Ag as_.length cg], rfl, rfl, ⟨[.int .i64 d], [.int .i64 a, .int .i64 b, .string nm, .slice Ag as_.length cg], rfl, rfl, ⟨[.int .i64 a], [.int .i64 b, .string nm, .slice Ag as_.length cg], rfl, rfl, ⟨[.int .i64 b], [.string nm, .slice Ag as_.length cg], rfl, rfl, ⟨[.string nm], [.slice Ag as_.length cg], rfl, rfl, ⟨Ag, cg, rfl, hl, h⟩⟩⟩⟩⟩⟩
set_option maxHeartbeats 4000000 in
set_option maxRecDepth 100000 in
theorem cubbyref07_Uses.calls (op d a b : Int) (nm : ByteArray) (args : List Int) (Ag : Option Addr) (cg : Nat) (h1 : 1 ≤ op) (h2 : op ≤ 14) (w : World) (hargs : (Kd.int .i64).C w Ag args.length args) (hal : args.length ≤ 1000000) :
    Calls Try.prog 35 #[.agg #[.int .i64 op, .int .i64 d, .int .i64 a, .int .i64 b, .string nm, .slice Ag args.length cg]] w fun e w' => ∃ v0_ : Value, e = .returned v0_ ∧ Kd.R (Kd.int .i64) 3 w' w.heap.size (fun _ => True) v0_ (Ir.uses op a b args) ∧ Below w.heap.size w w' := by
  have hinfo : (Try.prog.info? 3).map (fun i => (i.zero, i.size, i.bytes)) = some (some (.int .i64 0), 1, 8) := by kernel_rfl
  have HI := Lib.hid hinfo
  have KX : Aside0 (∀ W2, Below (w.alloc (.cells #[.int .i64 op, .int .i64 d, .int .i64 a, .int .i64 b, .string nm, .slice Ag args.length cg] 28)).heap.size (w.alloc (.cells #[.int .i64 op, .int .i64 d, .int .i64 a, .int .i64 b, .string nm, .slice Ag args.length cg] 28)) W2 → W2.cell? ⟨w.heap.size, 0, none⟩ = some (.int .i64 op) ∧ W2.cell? ⟨w.heap.size, 1, none⟩ = some (.int .i64 d) ∧ W2.cell? ⟨w.heap.size, 2, none⟩ = some (.int .i64 a) ∧ W2.cell? ⟨w.heap.size, 3, none⟩ = some (.int .i64 b) ∧ W2.cell? ⟨w.heap.size, 4, none⟩ = some (.string nm) ∧ W2.cell? ⟨w.heap.size, 5, none⟩ = some (.slice Ag args.length cg)) := ⟨fun W2 hb => by
    have e := (hb.block w.heap.size (by simp)).trans (Hw.blk_nw w (.cells #[.int .i64 op, .int .i64 d, .int .i64 a, .int .i64 b, .string nm, .slice Ag args.length cg] 28))
    exact ⟨cell_of_row W2 _ 0 _ _ _ e, cell_of_row W2 _ 1 _ _ _ e, cell_of_row W2 _ 2 _ _ _ e, cell_of_row W2 _ 3 _ _ _ e, cell_of_row W2 _ 4 _ _ _ e, cell_of_row W2 _ 5 _ _ _ e⟩⟩
  have HW1 := Aside0.mk ((Below.refl w.heap.size w).alloc (Nat.le_refl _) (.cells #[.int .i64 op, .int .i64 d, .int .i64 a, .int .i64 b, .string nm, .slice Ag args.length cg] 28))
  have hs1 : w.heap.size ≤ (w.alloc (.cells #[.int .i64 op, .int .i64 d, .int .i64 a, .int .i64 b, .string nm, .slice Ag args.length cg] 28)).heap.size := by simp
  have HA := Aside0.mk hargs
  clear hinfo hargs
  go_enter Try.func35, Try.ntmps35
  go_upto_region 1 with fail
  generalize w.alloc (.cells #[.int .i64 op, .int .i64 d, .int .i64 a, .int .i64 b, .string nm, .slice Ag args.length cg] 28) = W1 at KX HW1 hs1 ⊢
  go_upto_region 2 with ((with_reducible refine gate_dst (N := 4) rfl ?_); refine Kd.R_lit (Kd.int .i64) _ 3 ?hg (N := 4) ?hd (xs := ([] : List (Int))) (inner := []) (ok := fun _ => True) (okp := fun _ => True) ?hr ?hp (fun _ hk => hk) trivial (Below.refl _ _) (Nat.le_refl _) (by simp) ?_; (case hd => rfl); (case hg => rfl); (case hr => first | (go_simp; done) | (go_simp; rfl)); (case hp => exact (Reps.none _ _)); intro v4 w3 ho4 hb hg_ hnew_; clear hg_ hnew_; have HO := Aside0.mk (Kd.R_lower ho4 hs1); have HX := Aside0.mk hb; clear ho4 hb)
  obtain ⟨k0, k1, k2, k3, k4, k5⟩ := KX.out _ HX.out
  have HB := Aside0.mk (HW1.out.trans (HX.out.mono hs1))
  have HC := Aside0.mk (Kd.C_below HA.out HB.out)
  clear KX HW1 HA HX hs1
  rcases Ir.ops op h1 h2 with rfl | rfl | rfl | rfl | rfl | rfl | rfl | rfl | rfl | rfl | rfl | rfl | rfl | rfl
  · clear h1 h2
    go_wp2_with (fail)
    go_ret
    exact ⟨_, rfl, HO.out, HB.out⟩
  · clear h1 h2
    have HN := Aside0.mk (Hw.blk_nw w3 (.cells #[.int .i64 a] 3))
    have HO := Aside0.mk (Kd.R_alloc HO.out (.cells #[.int .i64 a] 3))
    have HB := Aside0.mk (HB.out.alloc HB.out.size (.cells #[.int .i64 a] 3))
    have hrow : (Kd.int .i64).C (w3.alloc (.cells #[.int .i64 a] 3)) (some ⟨w3.heap.size, 0, none⟩) 1 [a] := by
      refine cubbyref07_Uses.C_block (Kd.int .i64) (t := 3) (xs := [a]) [[.int .i64 a]] HN.out rfl (show (1 : Nat) ≤ 9223372036854775807 by decide) ?_
      intro j x c hj hc
      match j with
      | 0 => cases hj; cases hc; rfl
      | j + 1 => cases hj
    have HR := Aside0.mk hrow
    clear hrow
    (go_wp2_with ((with_reducible refine gate_builtin (b := .append) (xs := #[.tmp 13, .tmp 16]) rfl ?_); at_builtin; refine Kd.R_append_rows (Kd.int .i64) (w0 := w) w.heap.size rfl (.tmp 13) (.tmp 16) 26 3 (.int .i64 0) 8 rfl Try.underlying26 HI.out rfl (by decide) (by omega) v4 ([] : List Int) [a] (some ⟨w3.heap.size, 0, none⟩) 1 1 (fun _ => True) (fun _ => False) rfl rfl HO.out HR.out (fun _ _ h => h) (fun _ h => h.elim) (fun _ _ => trivial) HB.out HB.out.size (by simp only [List.length_nil]; omega) ?_; intro v1 w9 ho hb hg hat; have HO9 := Aside0.mk ho; have HB9 := Aside0.mk hb; clear ho hb hg hat))
    go_ret
    exact ⟨_, rfl, HO9.out, HB9.out⟩
  · clear h1 h2
    have HN := Aside0.mk (Hw.blk_nw w3 (.cells #[.int .i64 a, .int .i64 b] 3))
    have HO := Aside0.mk (Kd.R_alloc HO.out (.cells #[.int .i64 a, .int .i64 b] 3))
    have HB := Aside0.mk (HB.out.alloc HB.out.size (.cells #[.int .i64 a, .int .i64 b] 3))
    have hrow : (Kd.int .i64).C (w3.alloc (.cells #[.int .i64 a, .int .i64 b] 3)) (some ⟨w3.heap.size, 0, none⟩) 2 [a, b] := by
      refine cubbyref07_Uses.C_block (Kd.int .i64) (t := 3) (xs := [a, b]) [[.int .i64 a], [.int .i64 b]] HN.out rfl (show (2 : Nat) ≤ 9223372036854775807 by decide) ?_
      intro j x c hj hc
      match j with
      | 0 => cases hj; cases hc; rfl
      | 1 => cases hj; cases hc; rfl
      | j + 2 => cases hj
    have HR := Aside0.mk hrow
    clear hrow
    (go_wp2_with ((with_reducible refine gate_builtin (b := .append) (xs := #[.tmp 25, .tmp 30]) rfl ?_); at_builtin; refine Kd.R_append_rows (Kd.int .i64) (w0 := w) w.heap.size rfl (.tmp 25) (.tmp 30) 26 3 (.int .i64 0) 8 rfl Try.underlying26 HI.out rfl (by decide) (by omega) v4 ([] : List Int) [a, b] (some ⟨w3.heap.size, 0, none⟩) 2 2 (fun _ => True) (fun _ => False) rfl rfl HO.out HR.out (fun _ _ h => h) (fun _ h => h.elim) (fun _ _ => trivial) HB.out HB.out.size (by simp only [List.length_nil]; omega) ?_; intro v1 w9 ho hb hg hat; have HO9 := Aside0.mk ho; have HB9 := Aside0.mk hb; clear ho hb hg hat))
    go_ret
    exact ⟨_, rfl, HO9.out, HB9.out⟩
  · clear h1 h2
    have HN := Aside0.mk (Hw.blk_nw w3 (.cells #[.int .i64 a, .int .i64 b] 3))
    have HO := Aside0.mk (Kd.R_alloc HO.out (.cells #[.int .i64 a, .int .i64 b] 3))
    have HB := Aside0.mk (HB.out.alloc HB.out.size (.cells #[.int .i64 a, .int .i64 b] 3))
    have hrow : (Kd.int .i64).C (w3.alloc (.cells #[.int .i64 a, .int .i64 b] 3)) (some ⟨w3.heap.size, 0, none⟩) 2 [a, b] := by
      refine cubbyref07_Uses.C_block (Kd.int .i64) (t := 3) (xs := [a, b]) [[.int .i64 a], [.int .i64 b]] HN.out rfl (show (2 : Nat) ≤ 9223372036854775807 by decide) ?_
      intro j x c hj hc
      match j with
      | 0 => cases hj; cases hc; rfl
      | 1 => cases hj; cases hc; rfl
      | j + 2 => cases hj
    have HR := Aside0.mk hrow
    clear hrow
    (go_wp2_with ((with_reducible refine gate_builtin (b := .append) (xs := #[.tmp 25, .tmp 30]) rfl ?_); at_builtin; refine Kd.R_append_rows (Kd.int .i64) (w0 := w) w.heap.size rfl (.tmp 25) (.tmp 30) 26 3 (.int .i64 0) 8 rfl Try.underlying26 HI.out rfl (by decide) (by omega) v4 ([] : List Int) [a, b] (some ⟨w3.heap.size, 0, none⟩) 2 2 (fun _ => True) (fun _ => False) rfl rfl HO.out HR.out (fun _ _ h => h) (fun _ h => h.elim) (fun _ _ => trivial) HB.out HB.out.size (by simp only [List.length_nil]; omega) ?_; intro v1 w9 ho hb hg hat; have HO9 := Aside0.mk ho; have HB9 := Aside0.mk hb; clear ho hb hg hat))
    go_ret
    exact ⟨_, rfl, HO9.out, HB9.out⟩
  · clear h1 h2
    have HN := Aside0.mk (Hw.blk_nw w3 (.cells #[.int .i64 a, .int .i64 b] 3))
    have HO := Aside0.mk (Kd.R_alloc HO.out (.cells #[.int .i64 a, .int .i64 b] 3))
    have HB := Aside0.mk (HB.out.alloc HB.out.size (.cells #[.int .i64 a, .int .i64 b] 3))
    have hrow : (Kd.int .i64).C (w3.alloc (.cells #[.int .i64 a, .int .i64 b] 3)) (some ⟨w3.heap.size, 0, none⟩) 2 [a, b] := by
      refine cubbyref07_Uses.C_block (Kd.int .i64) (t := 3) (xs := [a, b]) [[.int .i64 a], [.int .i64 b]] HN.out rfl (show (2 : Nat) ≤ 9223372036854775807 by decide) ?_
      intro j x c hj hc
      match j with
      | 0 => cases hj; cases hc; rfl
      | 1 => cases hj; cases hc; rfl
      | j + 2 => cases hj
    have HR := Aside0.mk hrow
    clear hrow
    (go_wp2_with ((with_reducible refine gate_builtin (b := .append) (xs := #[.tmp 25, .tmp 30]) rfl ?_); at_builtin; refine Kd.R_append_rows (Kd.int .i64) (w0 := w) w.heap.size rfl (.tmp 25) (.tmp 30) 26 3 (.int .i64 0) 8 rfl Try.underlying26 HI.out rfl (by decide) (by omega) v4 ([] : List Int) [a, b] (some ⟨w3.heap.size, 0, none⟩) 2 2 (fun _ => True) (fun _ => False) rfl rfl HO.out HR.out (fun _ _ h => h) (fun _ h => h.elim) (fun _ _ => trivial) HB.out HB.out.size (by simp only [List.length_nil]; omega) ?_; intro v1 w9 ho hb hg hat; have HO9 := Aside0.mk ho; have HB9 := Aside0.mk hb; clear ho hb hg hat))
    go_ret
    exact ⟨_, rfl, HO9.out, HB9.out⟩
  · clear h1 h2
    have HN := Aside0.mk (Hw.blk_nw w3 (.cells #[.int .i64 a, .int .i64 b] 3))
    have HO := Aside0.mk (Kd.R_alloc HO.out (.cells #[.int .i64 a, .int .i64 b] 3))
    have HB := Aside0.mk (HB.out.alloc HB.out.size (.cells #[.int .i64 a, .int .i64 b] 3))
    have hrow : (Kd.int .i64).C (w3.alloc (.cells #[.int .i64 a, .int .i64 b] 3)) (some ⟨w3.heap.size, 0, none⟩) 2 [a, b] := by
      refine cubbyref07_Uses.C_block (Kd.int .i64) (t := 3) (xs := [a, b]) [[.int .i64 a], [.int .i64 b]] HN.out rfl (show (2 : Nat) ≤ 9223372036854775807 by decide) ?_
      intro j x c hj hc
      match j with
      | 0 => cases hj; cases hc; rfl
      | 1 => cases hj; cases hc; rfl
      | j + 2 => cases hj
    have HR := Aside0.mk hrow
    clear hrow
    (go_wp2_with ((with_reducible refine gate_builtin (b := .append) (xs := #[.tmp 25, .tmp 30]) rfl ?_); at_builtin; refine Kd.R_append_rows (Kd.int .i64) (w0 := w) w.heap.size rfl (.tmp 25) (.tmp 30) 26 3 (.int .i64 0) 8 rfl Try.underlying26 HI.out rfl (by decide) (by omega) v4 ([] : List Int) [a, b] (some ⟨w3.heap.size, 0, none⟩) 2 2 (fun _ => True) (fun _ => False) rfl rfl HO.out HR.out (fun _ _ h => h) (fun _ h => h.elim) (fun _ _ => trivial) HB.out HB.out.size (by simp only [List.length_nil]; omega) ?_; intro v1 w9 ho hb hg hat; have HO9 := Aside0.mk ho; have HB9 := Aside0.mk hb; clear ho hb hg hat))
    go_ret
    exact ⟨_, rfl, HO9.out, HB9.out⟩
  · clear h1 h2
    have HN := Aside0.mk (Hw.blk_nw w3 (.cells #[.int .i64 a, .int .i64 b] 3))
    have HO := Aside0.mk (Kd.R_alloc HO.out (.cells #[.int .i64 a, .int .i64 b] 3))
    have HB := Aside0.mk (HB.out.alloc HB.out.size (.cells #[.int .i64 a, .int .i64 b] 3))
    have hrow : (Kd.int .i64).C (w3.alloc (.cells #[.int .i64 a, .int .i64 b] 3)) (some ⟨w3.heap.size, 0, none⟩) 2 [a, b] := by
      refine cubbyref07_Uses.C_block (Kd.int .i64) (t := 3) (xs := [a, b]) [[.int .i64 a], [.int .i64 b]] HN.out rfl (show (2 : Nat) ≤ 9223372036854775807 by decide) ?_
      intro j x c hj hc
      match j with
      | 0 => cases hj; cases hc; rfl
      | 1 => cases hj; cases hc; rfl
      | j + 2 => cases hj
    have HR := Aside0.mk hrow
    clear hrow
    (go_wp2_with ((with_reducible refine gate_builtin (b := .append) (xs := #[.tmp 25, .tmp 30]) rfl ?_); at_builtin; refine Kd.R_append_rows (Kd.int .i64) (w0 := w) w.heap.size rfl (.tmp 25) (.tmp 30) 26 3 (.int .i64 0) 8 rfl Try.underlying26 HI.out rfl (by decide) (by omega) v4 ([] : List Int) [a, b] (some ⟨w3.heap.size, 0, none⟩) 2 2 (fun _ => True) (fun _ => False) rfl rfl HO.out HR.out (fun _ _ h => h) (fun _ h => h.elim) (fun _ _ => trivial) HB.out HB.out.size (by simp only [List.length_nil]; omega) ?_; intro v1 w9 ho hb hg hat; have HO9 := Aside0.mk ho; have HB9 := Aside0.mk hb; clear ho hb hg hat))
    go_ret
    exact ⟨_, rfl, HO9.out, HB9.out⟩
  · clear h1 h2
    have HN := Aside0.mk (Hw.blk_nw w3 (.cells #[.int .i64 a] 3))
    have HO := Aside0.mk (Kd.R_alloc HO.out (.cells #[.int .i64 a] 3))
    have HB := Aside0.mk (HB.out.alloc HB.out.size (.cells #[.int .i64 a] 3))
    have hrow : (Kd.int .i64).C (w3.alloc (.cells #[.int .i64 a] 3)) (some ⟨w3.heap.size, 0, none⟩) 1 [a] := by
      refine cubbyref07_Uses.C_block (Kd.int .i64) (t := 3) (xs := [a]) [[.int .i64 a]] HN.out rfl (show (1 : Nat) ≤ 9223372036854775807 by decide) ?_
      intro j x c hj hc
      match j with
      | 0 => cases hj; cases hc; rfl
      | j + 1 => cases hj
    have HR := Aside0.mk hrow
    clear hrow
    (go_wp2_with ((with_reducible refine gate_builtin (b := .append) (xs := #[.tmp 13, .tmp 16]) rfl ?_); at_builtin; refine Kd.R_append_rows (Kd.int .i64) (w0 := w) w.heap.size rfl (.tmp 13) (.tmp 16) 26 3 (.int .i64 0) 8 rfl Try.underlying26 HI.out rfl (by decide) (by omega) v4 ([] : List Int) [a] (some ⟨w3.heap.size, 0, none⟩) 1 1 (fun _ => True) (fun _ => False) rfl rfl HO.out HR.out (fun _ _ h => h) (fun _ h => h.elim) (fun _ _ => trivial) HB.out HB.out.size (by simp only [List.length_nil]; omega) ?_; intro v1 w9 ho hb hg hat; have HO9 := Aside0.mk ho; have HB9 := Aside0.mk hb; clear ho hb hg hat))
    go_ret
    exact ⟨_, rfl, HO9.out, HB9.out⟩
  · clear h1 h2
    have HN := Aside0.mk (Hw.blk_nw w3 (.cells #[.int .i64 a, .int .i64 b] 3))
    have HO := Aside0.mk (Kd.R_alloc HO.out (.cells #[.int .i64 a, .int .i64 b] 3))
    have HB := Aside0.mk (HB.out.alloc HB.out.size (.cells #[.int .i64 a, .int .i64 b] 3))
    have hrow : (Kd.int .i64).C (w3.alloc (.cells #[.int .i64 a, .int .i64 b] 3)) (some ⟨w3.heap.size, 0, none⟩) 2 [a, b] := by
      refine cubbyref07_Uses.C_block (Kd.int .i64) (t := 3) (xs := [a, b]) [[.int .i64 a], [.int .i64 b]] HN.out rfl (show (2 : Nat) ≤ 9223372036854775807 by decide) ?_
      intro j x c hj hc
      match j with
      | 0 => cases hj; cases hc; rfl
      | 1 => cases hj; cases hc; rfl
      | j + 2 => cases hj
    have HR := Aside0.mk hrow
    clear hrow
    (go_wp2_with ((with_reducible refine gate_builtin (b := .append) (xs := #[.tmp 25, .tmp 30]) rfl ?_); at_builtin; refine Kd.R_append_rows (Kd.int .i64) (w0 := w) w.heap.size rfl (.tmp 25) (.tmp 30) 26 3 (.int .i64 0) 8 rfl Try.underlying26 HI.out rfl (by decide) (by omega) v4 ([] : List Int) [a, b] (some ⟨w3.heap.size, 0, none⟩) 2 2 (fun _ => True) (fun _ => False) rfl rfl HO.out HR.out (fun _ _ h => h) (fun _ h => h.elim) (fun _ _ => trivial) HB.out HB.out.size (by simp only [List.length_nil]; omega) ?_; intro v1 w9 ho hb hg hat; have HO9 := Aside0.mk ho; have HB9 := Aside0.mk hb; clear ho hb hg hat))
    go_ret
    exact ⟨_, rfl, HO9.out, HB9.out⟩
  · clear h1 h2
    have HN := Aside0.mk (Hw.blk_nw w3 (.cells #[.int .i64 a] 3))
    have HO := Aside0.mk (Kd.R_alloc HO.out (.cells #[.int .i64 a] 3))
    have HB := Aside0.mk (HB.out.alloc HB.out.size (.cells #[.int .i64 a] 3))
    have hrow : (Kd.int .i64).C (w3.alloc (.cells #[.int .i64 a] 3)) (some ⟨w3.heap.size, 0, none⟩) 1 [a] := by
      refine cubbyref07_Uses.C_block (Kd.int .i64) (t := 3) (xs := [a]) [[.int .i64 a]] HN.out rfl (show (1 : Nat) ≤ 9223372036854775807 by decide) ?_
      intro j x c hj hc
      match j with
      | 0 => cases hj; cases hc; rfl
      | j + 1 => cases hj
    have HR := Aside0.mk hrow
    clear hrow
    (go_wp2_with ((with_reducible refine gate_builtin (b := .append) (xs := #[.tmp 13, .tmp 16]) rfl ?_); at_builtin; refine Kd.R_append_rows (Kd.int .i64) (w0 := w) w.heap.size rfl (.tmp 13) (.tmp 16) 26 3 (.int .i64 0) 8 rfl Try.underlying26 HI.out rfl (by decide) (by omega) v4 ([] : List Int) [a] (some ⟨w3.heap.size, 0, none⟩) 1 1 (fun _ => True) (fun _ => False) rfl rfl HO.out HR.out (fun _ _ h => h) (fun _ h => h.elim) (fun _ _ => trivial) HB.out HB.out.size (by simp only [List.length_nil]; omega) ?_; intro v1 w9 ho hb hg hat; have HO9 := Aside0.mk ho; have HB9 := Aside0.mk hb; clear ho hb hg hat))
    go_ret
    exact ⟨_, rfl, HO9.out, HB9.out⟩
  · clear h1 h2
    have HR := HC
    (go_wp2_with ((with_reducible refine gate_builtin (b := .append) (xs := #[.tmp 34, .tmp 36]) rfl ?_); at_builtin; refine Kd.R_append_rows (Kd.int .i64) (w0 := w) w.heap.size rfl (.tmp 34) (.tmp 36) 26 3 (.int .i64 0) 8 rfl Try.underlying26 HI.out rfl (by decide) (by omega) v4 ([] : List Int) args Ag args.length cg (fun _ => True) (fun _ => False) rfl rfl HO.out HR.out (fun _ _ h => h) (fun _ h => h.elim) (fun _ _ => trivial) HB.out HB.out.size (by simp only [List.length_nil]; omega) ?_; intro v1 w9 ho hb hg hat; have HO9 := Aside0.mk ho; have HB9 := Aside0.mk hb; clear ho hb hg hat))
    go_ret
    exact ⟨_, rfl, HO9.out, HB9.out⟩
  · clear h1 h2
    go_wp2_with (fail)
    go_ret
    exact ⟨_, rfl, HO.out, HB.out⟩
  · clear h1 h2
    have HN := Aside0.mk (Hw.blk_nw w3 (.cells #[.int .i64 a] 3))
    have HO := Aside0.mk (Kd.R_alloc HO.out (.cells #[.int .i64 a] 3))
    have HB := Aside0.mk (HB.out.alloc HB.out.size (.cells #[.int .i64 a] 3))
    have hrow : (Kd.int .i64).C (w3.alloc (.cells #[.int .i64 a] 3)) (some ⟨w3.heap.size, 0, none⟩) 1 [a] := by
      refine cubbyref07_Uses.C_block (Kd.int .i64) (t := 3) (xs := [a]) [[.int .i64 a]] HN.out rfl (show (1 : Nat) ≤ 9223372036854775807 by decide) ?_
      intro j x c hj hc
      match j with
      | 0 => cases hj; cases hc; rfl
      | j + 1 => cases hj
    have HR := Aside0.mk hrow
    clear hrow
    (go_wp2_with ((with_reducible refine gate_builtin (b := .append) (xs := #[.tmp 13, .tmp 16]) rfl ?_); at_builtin; refine Kd.R_append_rows (Kd.int .i64) (w0 := w) w.heap.size rfl (.tmp 13) (.tmp 16) 26 3 (.int .i64 0) 8 rfl Try.underlying26 HI.out rfl (by decide) (by omega) v4 ([] : List Int) [a] (some ⟨w3.heap.size, 0, none⟩) 1 1 (fun _ => True) (fun _ => False) rfl rfl HO.out HR.out (fun _ _ h => h) (fun _ h => h.elim) (fun _ _ => trivial) HB.out HB.out.size (by simp only [List.length_nil]; omega) ?_; intro v1 w9 ho hb hg hat; have HO9 := Aside0.mk ho; have HB9 := Aside0.mk hb; clear ho hb hg hat))
    go_ret
    exact ⟨_, rfl, HO9.out, HB9.out⟩
  · clear h1 h2
    have HN := Aside0.mk (Hw.blk_nw w3 (.cells #[.int .i64 a] 3))
    have HO := Aside0.mk (Kd.R_alloc HO.out (.cells #[.int .i64 a] 3))
    have HB := Aside0.mk (HB.out.alloc HB.out.size (.cells #[.int .i64 a] 3))
    have hrow : (Kd.int .i64).C (w3.alloc (.cells #[.int .i64 a] 3)) (some ⟨w3.heap.size, 0, none⟩) 1 [a] := by
      refine cubbyref07_Uses.C_block (Kd.int .i64) (t := 3) (xs := [a]) [[.int .i64 a]] HN.out rfl (show (1 : Nat) ≤ 9223372036854775807 by decide) ?_
      intro j x c hj hc
      match j with
      | 0 => cases hj; cases hc; rfl
      | j + 1 => cases hj
    have HR := Aside0.mk hrow
    clear hrow
    (go_wp2_with ((with_reducible refine gate_builtin (b := .append) (xs := #[.tmp 13, .tmp 16]) rfl ?_); at_builtin; refine Kd.R_append_rows (Kd.int .i64) (w0 := w) w.heap.size rfl (.tmp 13) (.tmp 16) 26 3 (.int .i64 0) 8 rfl Try.underlying26 HI.out rfl (by decide) (by omega) v4 ([] : List Int) [a] (some ⟨w3.heap.size, 0, none⟩) 1 1 (fun _ => True) (fun _ => False) rfl rfl HO.out HR.out (fun _ _ h => h) (fun _ h => h.elim) (fun _ _ => trivial) HB.out HB.out.size (by simp only [List.length_nil]; omega) ?_; intro v1 w9 ho hb hg hat; have HO9 := Aside0.mk ho; have HB9 := Aside0.mk hb; clear ho hb hg hat))
    go_ret
    exact ⟨_, rfl, HO9.out, HB9.out⟩

end Go.Proofs.Ytkjflclkjdbmoaa.PExecSlots
