/- The pure law behind RunAlgebra: for every input that its bounds let in, the law's function answers true. Conditions: none. -/
import Derived.Test.YtjmgfpfdkfelhaaPRunAlgebrax1
set_option linter.unusedVariables false
namespace Go.Proofs.Ytjmgfpfdkfelhaa.Pure
open Go.RowKit Go.Proofs.Ytjmgfpfdkfelhaa.PRunAlgebra Go.Proofs.YtjmgfpfdkfelhaaW.PrintWords Go.Proofs.YtjmgfpfdkfelhaaW.PrintLast

theorem wrap64_in (n : Int) (h : -9223372036854775808 ≤ n) (h2 : n < 9223372036854775808) : wrap64 n = n := by unfold wrap64; omega
theorem word_bits (a : Int) : Go.bits .and .i64 a 65535 = a % 65536 := by
  unfold Go.bits
  have e : (BitVec.ofInt IntKind.i64.bits a &&& BitVec.ofInt IntKind.i64.bits 65535).toNat = (a % 18446744073709551616).toNat % 65536 := by
    rw [BitVec.toNat_and, BitVec.toNat_ofInt, BitVec.toNat_ofInt]
    have h1 : ((65535 : Int) % ((2 ^ IntKind.i64.bits : Nat) : Int)).toNat = 2 ^ 16 - 1 := by decide
    have h2 : ((2 ^ IntKind.i64.bits : Nat) : Int) = 18446744073709551616 := by decide
    rw [h1, h2, Nat.and_two_pow_sub_one_eq_mod]
  simp only [e]
  rw [IntKind.wrap_i64]
  omega
theorem word_f (a : Int) : run_Word.f a = some (a % 65536) := by unfold run_Word.f; rw [word_bits]
theorem wf_i64 (a : Int) (h : (Lit.int .i64 a).wf = true) : -9223372036854775808 ≤ a ∧ a < 9223372036854775808 := by
  simp [Lit.wf, IntKind.min, IntKind.max, IntKind.signed, IntKind.bits] at h
  omega
theorem wf_u16 (a : Int) (h : (Lit.int .u16 a).wf = true) : 0 ≤ a ∧ a < 65536 := by
  simp [Lit.wf, IntKind.min, IntKind.max, IntKind.signed, IntKind.bits] at h
  omega
theorem mul_wd (a b : Int) (ha : 0 ≤ a) (ha2 : a < 65536) (hb : 0 ≤ b) (hb2 : b < 65536) : 0 ≤ a * b ∧ a * b < 9223372036854775808 := by
  have h1 : a * b ≤ 65536 * 65536 := Int.mul_le_mul (by omega) (by omega) hb (by omega)
  exact ⟨Int.mul_nonneg ha hb, by omega⟩

theorem op_add (a b : Int) (ha : 0 ≤ a) (ha2 : a < 65536) (hb : 0 ≤ b) (hb2 : b < 65536) : run_Op.f 3 a b = some ((a + b) % 65536, true) := by
  unfold run_Op.f
  simp only [word_f, Option.bind_some, if_true]
  rw [Int.emod_eq_of_lt ha ha2, Int.emod_eq_of_lt hb hb2, wrap64_in _ (by omega) (by omega)]
theorem op_sub (a b : Int) (ha : 0 ≤ a) (ha2 : a < 65536) (hb : 0 ≤ b) (hb2 : b < 65536) : run_Op.f 4 a b = some ((a - b) % 65536, true) := by
  unfold run_Op.f
  simp only [word_f, Option.bind_some, if_true]
  rw [if_neg (by omega), Int.emod_eq_of_lt ha ha2, Int.emod_eq_of_lt hb hb2, wrap64_in _ (by omega) (by omega)]
theorem op_mul (a b : Int) (ha : 0 ≤ a) (ha2 : a < 65536) (hb : 0 ≤ b) (hb2 : b < 65536) : run_Op.f 5 a b = some ((a * b) % 65536, true) := by
  have h := mul_wd a b ha ha2 hb hb2
  unfold run_Op.f
  simp only [word_f, Option.bind_some, if_true]
  rw [if_neg (by omega), if_neg (by omega), Int.emod_eq_of_lt ha ha2, Int.emod_eq_of_lt hb hb2, wrap64_in _ (by omega) (by omega)]
theorem op_div (a b : Int) (ha : 0 ≤ a) (ha2 : a < 65536) (hb : 0 ≤ b) (hb2 : b < 65536) : run_Op.f 7 a b = some (if b = 0 then (0, false) else (a / b, true)) := by
  have h1 : 0 ≤ a / b := Int.ediv_nonneg ha hb
  have h2 : a / b ≤ a := Int.ediv_le_self b ha
  unfold run_Op.f
  simp only [word_f, Option.bind_some, if_true]
  rw [if_neg (by omega), if_neg (by omega), if_neg (by omega), if_neg (by omega), Int.emod_eq_of_lt ha ha2, Int.emod_eq_of_lt hb hb2]
  by_cases h : b = 0
  · rw [if_pos h, if_pos h]
  · rw [if_neg h, if_neg h, Int.tdiv_eq_ediv_of_nonneg ha, wrap64_in _ (by omega) (by omega)]
theorem ring_mod (x y z M : Int) : ((x + y) % M * z) % M = ((x * z) % M + (y * z) % M) % M := by
  rw [← Int.add_emod, ← Int.add_mul, Int.mul_emod, Int.emod_emod, ← Int.mul_emod]
theorem sub_mod (x y : Int) (h : 0 ≤ x) (h2 : x < 65536) : ((x + y) % 65536 - y) % 65536 = x := by omega
theorem div_near (x y : Int) (hx : 0 ≤ x) (hx2 : x < 65536) (hy : 0 ≤ y) (h : ¬ y = 0) : 0 ≤ x / y * y ∧ x / y * y ≤ x ∧ x - x / y * y < y := by
  have d1 := Int.mul_ediv_add_emod x y
  have d2 := Int.emod_nonneg x h
  have d3 := Int.emod_lt_of_pos x (show 0 < y by omega)
  have d4 : x / y * y = y * (x / y) := Int.mul_comm _ _
  have d5 : 0 ≤ x / y * y := Int.mul_nonneg (Int.ediv_nonneg hx hy) hy
  omega
theorem bnd {α β : Type} {o : Option α} {a : α} (f : α → Option β) (h : o = some a) : o.bind f = f a := by rw [h]; rfl
def M : Int := 65536
theorem M_is : (65536 : Int) = M := rfl
theorem M_pos : 0 < M := by decide
theorem RunAlgebra : cubbylaw10_RunAlgebra.Pure := by
  intro x y z wx wy wz
  have hx := wf_u16 x wx
  have hy := wf_u16 y wy
  have hz := wf_u16 z wz
  have b1 : ∀ a : Int, 0 ≤ a % 65536 ∧ a % 65536 < 65536 := fun a => by omega
  have e1 := ring_mod x y z 65536
  have e2 := sub_mod x y hx.1 hx.2
  have m1 := b1 (x + y)
  have m3 := b1 (x * z)
  have m5 := b1 (y * z)
  unfold cubbylaw10_RunAlgebra.f
  rw [wrap64_in x (by omega) (by omega), wrap64_in y (by omega) (by omega), wrap64_in z (by omega) (by omega), bnd _ (op_add x y hx.1 hx.2 hy.1 hy.2), bnd _ (op_mul _ z m1.1 m1.2 hz.1 hz.2), bnd _ (op_mul x z hx.1 hx.2 hz.1 hz.2), bnd _ (op_mul y z hy.1 hy.2 hz.1 hz.2), bnd _ (op_add _ _ m3.1 m3.2 m5.1 m5.2), bnd _ (op_sub _ y m1.1 m1.2 hy.1 hy.2), bnd _ (op_div x y hx.1 hx.2 hy.1 hy.2)]
  rw [e1, e2]
  clear e1 e2 m1 m3 m5 b1
  generalize (x * z % 65536 + y * z % 65536) % 65536 = P
  by_cases h : y = 0
  · subst h; simp
  · obtain ⟨d5, d6, d7⟩ := div_near x y hx.1 hx.2 hy.1 h
    rw [if_neg h, if_neg h, if_pos rfl, if_pos rfl, if_pos rfl, if_pos rfl]
    have e3 : ((true : Bool) == decide (y > 0)) = true := by rw [decide_eq_true (by omega)]; rfl
    rw [if_pos e3]
    show (if wrap64 (x / y * y) ≤ x then some (decide (wrap64 (x - wrap64 (x / y * y)) < y)) else some false) = some true
    rw [wrap64_in (x / y * y) (by omega) (by omega), if_pos d6, wrap64_in _ (by omega) (by omega), decide_eq_true d7]

end Go.Proofs.Ytjmgfpfdkfelhaa.Pure
