/- The pure law behind RunOps: for every input that its bounds let in, the law's function answers true. Conditions: none. -/
import Derived.Test.YtjmgfpfdkfelhaaPRunOpsx1
set_option linter.unusedVariables false
namespace Go.Proofs.Ytjmgfpfdkfelhaa.Pure
open Go.RowKit Go.Proofs.Ytjmgfpfdkfelhaa.PRunOps Go.Proofs.YtjmgfpfdkfelhaaW.PrintWords Go.Proofs.YtjmgfpfdkfelhaaW.PrintLast

theorem wrap64_in (n : Int) (h : -9223372036854775808 ≤ n) (h2 : n < 9223372036854775808) : wrap64 n = n := by unfold wrap64; omega
theorem word_bits (a : Int) : Go.bits .and .i64 a 65535 = a % 65536 := by
  unfold Go.bits
  have e : (BitVec.ofInt IntKind.i64.bits a &&& BitVec.ofInt IntKind.i64.bits 65535).toNat = (a % 18446744073709551616).toNat % 65536 := by
    rw [BitVec.toNat_and, BitVec.toNat_ofInt, BitVec.toNat_ofInt]
    have h1 : ((65535 : Int) % ((2 ^ IntKind.i64.bits : Nat) : Int)).toNat = 2 ^ 16 - 1 := by decide
    have h2 : ((2 ^ IntKind.i64.bits : Nat) : Int) = 18446744073709551616 := by decide
    rw [h1, h2, Nat.and_two_pow_sub_one_eq_mod]
  simp only [e]
  rw [IntKind.wrap_i64]
  omega
theorem word_f (a : Int) : run_Word.f a = some (a % 65536) := by unfold run_Word.f; rw [word_bits]
theorem wf_i64 (a : Int) (h : (Lit.int .i64 a).wf = true) : -9223372036854775808 ≤ a ∧ a < 9223372036854775808 := by
  simp [Lit.wf, IntKind.min, IntKind.max, IntKind.signed, IntKind.bits] at h
  omega
theorem wf_u16 (a : Int) (h : (Lit.int .u16 a).wf = true) : 0 ≤ a ∧ a < 65536 := by
  simp [Lit.wf, IntKind.min, IntKind.max, IntKind.signed, IntKind.bits] at h
  omega
theorem mul_wd (a b : Int) (ha : 0 ≤ a) (ha2 : a < 65536) (hb : 0 ≤ b) (hb2 : b < 65536) : 0 ≤ a * b ∧ a * b < 9223372036854775808 := by
  have h1 : a * b ≤ 65536 * 65536 := Int.mul_le_mul (by omega) (by omega) hb (by omega)
  exact ⟨Int.mul_nonneg ha hb, by omega⟩

theorem rword_f (a : Int) : cubbyref10_Word.f a = some (a % 65536) := by
  unfold cubbyref10_Word.f
  have h := Int.tmod_eq_emod (a := a) (b := 65536)
  have hb : -65536 < Int.tmod a 65536 ∧ Int.tmod a 65536 < 65536 := ⟨Int.lt_tmod_of_pos a (by omega), Int.tmod_lt_of_pos a (by omega)⟩
  have hm : Int.tmod a 65536 % 65536 = a % 65536 := by
    rw [h]; split <;> omega
  by_cases hn : Int.tmod a 65536 < 0
  · rw [if_pos hn, wrap64_in _ (by omega) (by omega)]
    exact congrArg some (by omega)
  · rw [if_neg hn]
    exact congrArg some (by omega)
theorem RunOps : cubbylaw10_RunOps.Pure := by
  intro o a b wo wa wb
  have e : run_Op.f o a b = cubbyref10_Op.f o a b := by
    unfold run_Op.f cubbyref10_Op.f
    simp only [word_f, rword_f, Option.bind_some]
    by_cases h : b % 65536 = 0
    · simp only [h, if_true]; simp
    · have h2 : b % 65536 > 0 := by omega
      simp only [h, h2, if_true, if_false]
  have hs : ∃ r, cubbyref10_Op.f o a b = some r := by
    unfold cubbyref10_Op.f
    simp only [rword_f, Option.bind_some]
    by_cases h : b % 65536 > 0
    · have h2 : ¬ b % 65536 = 0 := by omega
      simp only [h, h2, if_true, if_false]
      repeat' split
      all_goals exact ⟨_, rfl⟩
    · simp only [h, if_false]
      repeat' split
      all_goals exact ⟨_, rfl⟩
  obtain ⟨r, hr⟩ := hs
  unfold cubbylaw10_RunOps.f
  rw [e, hr]
  simp only [Option.bind_some, word_f, rword_f]
  simp

end Go.Proofs.Ytjmgfpfdkfelhaa.Pure
