/- The pure law behind SumSteps: for every input that its bounds let in, the law's function answers true. Conditions: none. -/
import Derived.Test.YtcajpaflaeaakaaPSumStepsx1
namespace Go.Proofs.Ytcajpaflaeaakaa.Pure
open Go.RowKit Go.Proofs.Ytcajpaflaeaakaa.PSumSteps Go.Proofs.YtcajpaflaeaakaaW.PrintWords Go.Proofs.YtcajpaflaeaakaaW.PrintLast

/-- One shift of the sum, over natural numbers. -/
def gg (x : Nat) : Nat := (x / 2) ^^^ (if x % 2 = 1 then 3988292384 else 0)
def git : Nat → Nat → Nat
  | 0, x => x
  | j + 1, x => git j (gg x)
theorem bits_u32 (a : Nat) (ha : a < 2 ^ 32) : (BitVec.ofInt IntKind.u32.bits (a : Int)).toNat = a := by
  rw [BitVec.ofInt_natCast, BitVec.toNat_ofNat]
  exact Nat.mod_eq_of_lt ha
theorem xor_u32 (a b : Nat) (ha : a < 2 ^ 32) (hb : b < 2 ^ 32) : Go.bits .xor .u32 (a : Int) (b : Int) = ((a ^^^ b : Nat) : Int) := by
  have hx : a ^^^ b < 2 ^ 32 := Nat.xor_lt_two_pow ha hb
  unfold Go.bits
  simp only [BitVec.toNat_xor, bits_u32 a ha, bits_u32 b hb]
  rw [IntKind.wrap_u32]
  omega
theorem and_u32 (a b : Nat) (ha : a < 2 ^ 32) (hb : b < 2 ^ 32) : Go.bits .and .u32 (a : Int) (b : Int) = ((a &&& b : Nat) : Int) := by
  have hx : a &&& b < 2 ^ 32 := Nat.and_lt_two_pow _ hb
  unfold Go.bits
  simp only [BitVec.toNat_and, bits_u32 a ha, bits_u32 b hb]
  rw [IntKind.wrap_u32]
  omega
theorem gg_lt (x : Nat) (h : x < 2 ^ 32) : gg x < 2 ^ 32 := by
  unfold gg
  refine Nat.xor_lt_two_pow (by omega) ?_
  split <;> omega
theorem git_lt (j : Nat) : ∀ x, x < 2 ^ 32 → git j x < 2 ^ 32 := by
  induction j with
  | zero => intro x h; exact h
  | succ j ih => intro x h; exact ih _ (gg_lt x h)
theorem xor_high (a : Nat) (h : a < 2 ^ 31) : 2 ^ 31 ≤ a ^^^ 3988292384 := by
  have h1 : (a ^^^ 3988292384).testBit 31 = true := by
    rw [Nat.testBit_xor, Nat.testBit_lt_two_pow h]; decide
  exact Nat.ge_two_pow_of_testBit h1
theorem gg_inj (x y : Nat) (hx : x < 2 ^ 32) (hy : y < 2 ^ 32) (h : gg x = gg y) : x = y := by
  have e1 : x / 2 < 2 ^ 31 := by omega
  have e2 : y / 2 < 2 ^ 31 := by omega
  have k1 := xor_high _ e1
  have k2 := xor_high _ e2
  have c : ∀ p q r : Nat, p ^^^ r = q ^^^ r → p = q := fun p q r hh => by
    have := congrArg (· ^^^ r) hh
    simpa [Nat.xor_assoc, Nat.xor_self, Nat.xor_zero] using this
  unfold gg at h
  by_cases p : x % 2 = 1 <;> by_cases q : y % 2 = 1
  · rw [if_pos p, if_pos q] at h; have := c _ _ _ h; omega
  · rw [if_pos p, if_neg q, Nat.xor_zero] at h; omega
  · rw [if_neg p, if_pos q, Nat.xor_zero] at h; omega
  · rw [if_neg p, if_neg q] at h; have := c _ _ _ h; omega
theorem git_inj (j : Nat) : ∀ x y, x < 2 ^ 32 → y < 2 ^ 32 → git j x = git j y → x = y := by
  induction j with
  | zero => intro x y _ _ h; exact h
  | succ j ih => intro x y hx hy h; exact gg_inj x y hx hy (ih _ _ (gg_lt x hx) (gg_lt y hy) h)
/-- A byte taken into a sum. -/
def stp (a b : Nat) : Nat := git 8 (a ^^^ b)
theorem stp_lt (a b : Nat) (ha : a < 2 ^ 32) (hb : b < 256) : stp a b < 2 ^ 32 := git_lt 8 _ (Nat.xor_lt_two_pow ha (by omega))
theorem xor_canc (p q r : Nat) (hh : p ^^^ r = q ^^^ r) : p = q := by
  have := congrArg (· ^^^ r) hh
  simpa [Nat.xor_assoc, Nat.xor_self, Nat.xor_zero] using this
theorem xor_cancl (r p q : Nat) (hh : r ^^^ p = r ^^^ q) : p = q := xor_canc p q r (by rw [Nat.xor_comm p, Nat.xor_comm q]; exact hh)
theorem stp_injl (a c b : Nat) (ha : a < 2 ^ 32) (hc : c < 2 ^ 32) (hb : b < 256) (h : stp a b = stp c b) : a = c :=
  xor_canc _ _ _ (git_inj 8 _ _ (Nat.xor_lt_two_pow ha (by omega)) (Nat.xor_lt_two_pow hc (by omega)) h)
theorem stp_injr (a b d : Nat) (ha : a < 2 ^ 32) (hb : b < 256) (hd : d < 256) (h : stp a b = stp a d) : b = d :=
  xor_cancl _ _ _ (git_inj 8 _ _ (Nat.xor_lt_two_pow ha (by omega)) (Nat.xor_lt_two_pow ha (by omega)) h)

theorem wrap64_in (n : Int) (h : 0 ≤ n) (h2 : n < 9223372036854775808) : wrap64 n = n := by unfold wrap64; omega
theorem sstep_l0 (j : Nat) : ∀ (k x : Nat) (i : Int), j ≤ 8 → j < k → x < 2 ^ 32 → i = 8 - j → sum_Step.l0 k (x : Int) i = some ((git j x : Nat) : Int) := by
  induction j with
  | zero =>
    intro k x i _ hk _ hi
    obtain ⟨k, rfl⟩ : ∃ m, k = m + 1 := ⟨k - 1, by omega⟩
    simp only [sum_Step.l0]; rw [if_neg (by omega)]; rfl
  | succ j ih =>
    intro k x i hj hk hx hi
    obtain ⟨k, rfl⟩ : ∃ m, k = m + 1 := ⟨k - 1, by omega⟩
    simp only [sum_Step.l0]; rw [if_pos (by omega), wrap64_in _ (by omega) (by omega)]
    have e1 : Go.bits .and .u32 (x : Int) 1 = ((x % 2 : Nat) : Int) := by
      have := and_u32 x 1 hx (by omega)
      rw [Nat.and_one_is_mod] at this
      exact this
    have e2 : Go.bits .xor .u32 ((x : Int) / 2) (Go.bits .and .u32 ((-(Go.bits .and .u32 (x : Int) 1)) % 4294967296) 3988292384) = ((gg x : Nat) : Int) := by
      rw [e1]
      have e3 : Go.bits .and .u32 ((-((x % 2 : Nat) : Int)) % 4294967296) 3988292384 = (((if x % 2 = 1 then 3988292384 else 0 : Nat)) : Int) := by
        rcases Nat.mod_two_eq_zero_or_one x with h | h
        · rw [h]; decide
        · rw [h]; decide
      rw [e3]
      have e4 : ((x : Int) / 2) = ((x / 2 : Nat) : Int) := by omega
      rw [e4, xor_u32 _ _ (by omega) (by split <;> omega)]
      rfl
    rw [e2]
    exact ih k (gg x) (i + 1) (by omega) (by omega) (gg_lt x hx) (by omega)
theorem sstep_f (k a b : Nat) (hk : 8 < k) (ha : a < 2 ^ 32) (hb : b < 256) : sum_Step.f k (a : Int) (b : Int) = some ((stp a b : Nat) : Int) := by
  unfold sum_Step.f stp
  have e : ((b : Int) % 4294967296) = (b : Int) := by omega
  rw [e, xor_u32 a b ha (by omega)]
  exact sstep_l0 8 k _ 0 (by omega) hk (Nat.xor_lt_two_pow ha (by omega)) (by omega)
theorem rstep_l0 (j : Nat) : ∀ (k x : Nat) (i : Int), j ≤ 8 → j < k → x < 2 ^ 32 → i = 8 - j → cubbyref01_Step.l0 k (x : Int) i = some ((git j x : Nat) : Int) := by
  induction j with
  | zero =>
    intro k x i _ hk _ hi
    obtain ⟨k, rfl⟩ : ∃ m, k = m + 1 := ⟨k - 1, by omega⟩
    simp only [cubbyref01_Step.l0]; rw [if_neg (by omega)]; rfl
  | succ j ih =>
    intro k x i hj hk hx hi
    obtain ⟨k, rfl⟩ : ∃ m, k = m + 1 := ⟨k - 1, by omega⟩
    have e1 : (Int.tdiv (x : Int) 2) % 4294967296 = ((x / 2 : Nat) : Int) := by
      rw [Int.tdiv_eq_ediv_of_nonneg (by omega)]; omega
    have e0 : Int.tmod (x : Int) 2 = ((x % 2 : Nat) : Int) := by
      rw [Int.tmod_eq_emod_of_nonneg (by omega)]; omega
    simp only [cubbyref01_Step.l0]; rw [if_pos (by omega), wrap64_in _ (by omega) (by omega), e0, e1]
    by_cases h : x % 2 = 1
    · rw [if_pos (by omega)]
      have e2 : Go.bits .xor .u32 ((x / 2 : Nat) : Int) 3988292384 = ((gg x : Nat) : Int) := by
        have := xor_u32 (x / 2) 3988292384 (by omega) (by omega)
        unfold gg; rw [if_pos h]; exact this
      rw [e2]
      exact ih k (gg x) (i + 1) (by omega) (by omega) (gg_lt x hx) (by omega)
    · rw [if_neg (by omega)]
      have e2 : x / 2 = gg x := by unfold gg; rw [if_neg h, Nat.xor_zero]
      rw [e2]
      exact ih k (gg x) (i + 1) (by omega) (by omega) (gg_lt x hx) (by omega)
theorem rstep_f (k a b : Nat) (hk : 8 < k) (ha : a < 2 ^ 32) (hb : b < 256) : cubbyref01_Step.f k (a : Int) (b : Int) = some ((stp a b : Nat) : Int) := by
  unfold cubbyref01_Step.f stp
  have e : ((b : Int) % 4294967296) = (b : Int) := by omega
  rw [e, xor_u32 a b ha (by omega)]
  exact rstep_l0 8 k _ 0 (by omega) hk (Nat.xor_lt_two_pow ha (by omega)) (by omega)
theorem wf_u32 (a : Int) (h : (Lit.int .u32 a).wf = true) : ∃ n : Nat, a = (n : Int) ∧ n < 2 ^ 32 := by
  simp [Lit.wf, IntKind.min, IntKind.max, IntKind.signed, IntKind.bits] at h
  exact ⟨a.toNat, by omega, by omega⟩
theorem wf_u8 (a : Int) (h : (Lit.int .u8 a).wf = true) : ∃ n : Nat, a = (n : Int) ∧ n < 256 := by
  simp [Lit.wf, IntKind.min, IntKind.max, IntKind.signed, IntKind.bits] at h
  exact ⟨a.toNat, by omega, by omega⟩

theorem SumSteps : cubbylaw01_SumSteps.Pure := by
  intro a0 a1 a2 w0 w1 w2
  obtain ⟨a, rfl, ha⟩ := wf_u32 a0 w0
  obtain ⟨b, rfl, hb⟩ := wf_u8 a1 w1
  obtain ⟨d, rfl, hd⟩ := wf_u8 a2 w2
  refine ⟨9, ?_⟩
  unfold cubbylaw01_SumSteps.f
  simp only [sstep_f 9 a b (by omega) ha hb, sstep_f 9 a d (by omega) ha hd, rstep_f 9 a b (by omega) ha hb, rstep_f 9 a d (by omega) ha hd, Option.bind_some]
  have e : ((((stp a b : Nat) : Int) == ((stp a d : Nat) : Int)) == ((b : Int) == (d : Int))) = true := by
    rw [beq_iff_eq, Bool.eq_iff_iff, beq_iff_eq, beq_iff_eq]
    constructor
    · intro h; have := stp_injr a b d ha hb hd (by omega); omega
    · intro h; have : b = d := by omega
      rw [this]
  simp [e] <;> (first | done | exact (beq_iff_eq.mp e))

end Go.Proofs.Ytcajpaflaeaakaa.Pure
