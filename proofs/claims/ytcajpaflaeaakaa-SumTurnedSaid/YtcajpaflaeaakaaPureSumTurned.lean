/- The pure law behind SumTurned: for every input that its bounds let in, the law's function answers true. Conditions: none. -/
import Derived.Test.YtcajpaflaeaakaaPSumTurnedx1
set_option linter.unusedVariables false
namespace Go.Proofs.Ytcajpaflaeaakaa.Pure
open Go.RowKit Go.Proofs.Ytcajpaflaeaakaa.PSumTurned Go.Proofs.YtcajpaflaeaakaaW.PrintWords Go.Proofs.YtcajpaflaeaakaaW.PrintLast

/-- One shift of the sum, over natural numbers. -/
def gg (x : Nat) : Nat := (x / 2) ^^^ (if x % 2 = 1 then 3988292384 else 0)
def git : Nat → Nat → Nat
  | 0, x => x
  | j + 1, x => git j (gg x)
theorem bits_u32 (a : Nat) (ha : a < 2 ^ 32) : (BitVec.ofInt IntKind.u32.bits (a : Int)).toNat = a := by
  rw [BitVec.ofInt_natCast, BitVec.toNat_ofNat]
  exact Nat.mod_eq_of_lt ha
theorem xor_u32 (a b : Nat) (ha : a < 2 ^ 32) (hb : b < 2 ^ 32) : Go.bits .xor .u32 (a : Int) (b : Int) = ((a ^^^ b : Nat) : Int) := by
  have hx : a ^^^ b < 2 ^ 32 := Nat.xor_lt_two_pow ha hb
  unfold Go.bits
  simp only [BitVec.toNat_xor, bits_u32 a ha, bits_u32 b hb]
  rw [IntKind.wrap_u32]
  omega
theorem and_u32 (a b : Nat) (ha : a < 2 ^ 32) (hb : b < 2 ^ 32) : Go.bits .and .u32 (a : Int) (b : Int) = ((a &&& b : Nat) : Int) := by
  have hx : a &&& b < 2 ^ 32 := Nat.and_lt_two_pow _ hb
  unfold Go.bits
  simp only [BitVec.toNat_and, bits_u32 a ha, bits_u32 b hb]
  rw [IntKind.wrap_u32]
  omega
theorem gg_lt (x : Nat) (h : x < 2 ^ 32) : gg x < 2 ^ 32 := by
  unfold gg
  refine Nat.xor_lt_two_pow (by omega) ?_
  split <;> omega
theorem git_lt (j : Nat) : ∀ x, x < 2 ^ 32 → git j x < 2 ^ 32 := by
  induction j with
  | zero => intro x h; exact h
  | succ j ih => intro x h; exact ih _ (gg_lt x h)
theorem xor_high (a : Nat) (h : a < 2 ^ 31) : 2 ^ 31 ≤ a ^^^ 3988292384 := by
  have h1 : (a ^^^ 3988292384).testBit 31 = true := by
    rw [Nat.testBit_xor, Nat.testBit_lt_two_pow h]; decide
  exact Nat.ge_two_pow_of_testBit h1
theorem gg_inj (x y : Nat) (hx : x < 2 ^ 32) (hy : y < 2 ^ 32) (h : gg x = gg y) : x = y := by
  have e1 : x / 2 < 2 ^ 31 := by omega
  have e2 : y / 2 < 2 ^ 31 := by omega
  have k1 := xor_high _ e1
  have k2 := xor_high _ e2
  have c : ∀ p q r : Nat, p ^^^ r = q ^^^ r → p = q := fun p q r hh => by
    have := congrArg (· ^^^ r) hh
    simpa [Nat.xor_assoc, Nat.xor_self, Nat.xor_zero] using this
  unfold gg at h
  by_cases p : x % 2 = 1 <;> by_cases q : y % 2 = 1
  · rw [if_pos p, if_pos q] at h; have := c _ _ _ h; omega
  · rw [if_pos p, if_neg q, Nat.xor_zero] at h; omega
  · rw [if_neg p, if_pos q, Nat.xor_zero] at h; omega
  · rw [if_neg p, if_neg q] at h; have := c _ _ _ h; omega
theorem git_inj (j : Nat) : ∀ x y, x < 2 ^ 32 → y < 2 ^ 32 → git j x = git j y → x = y := by
  induction j with
  | zero => intro x y _ _ h; exact h
  | succ j ih => intro x y hx hy h; exact gg_inj x y hx hy (ih _ _ (gg_lt x hx) (gg_lt y hy) h)
/-- A byte taken into a sum. -/
def stp (a b : Nat) : Nat := git 8 (a ^^^ b)
theorem stp_lt (a b : Nat) (ha : a < 2 ^ 32) (hb : b < 256) : stp a b < 2 ^ 32 := git_lt 8 _ (Nat.xor_lt_two_pow ha (by omega))
theorem xor_canc (p q r : Nat) (hh : p ^^^ r = q ^^^ r) : p = q := by
  have := congrArg (· ^^^ r) hh
  simpa [Nat.xor_assoc, Nat.xor_self, Nat.xor_zero] using this
theorem xor_cancl (r p q : Nat) (hh : r ^^^ p = r ^^^ q) : p = q := xor_canc p q r (by rw [Nat.xor_comm p, Nat.xor_comm q]; exact hh)
theorem stp_injl (a c b : Nat) (ha : a < 2 ^ 32) (hc : c < 2 ^ 32) (hb : b < 256) (h : stp a b = stp c b) : a = c :=
  xor_canc _ _ _ (git_inj 8 _ _ (Nat.xor_lt_two_pow ha (by omega)) (Nat.xor_lt_two_pow hc (by omega)) h)
theorem stp_injr (a b d : Nat) (ha : a < 2 ^ 32) (hb : b < 256) (hd : d < 256) (h : stp a b = stp a d) : b = d :=
  xor_cancl _ _ _ (git_inj 8 _ _ (Nat.xor_lt_two_pow ha (by omega)) (Nat.xor_lt_two_pow ha (by omega)) h)

theorem wrap64_in (n : Int) (h : 0 ≤ n) (h2 : n < 9223372036854775808) : wrap64 n = n := by unfold wrap64; omega
theorem sstep_l0 (j : Nat) : ∀ (k x : Nat) (i : Int), j ≤ 8 → j < k → x < 2 ^ 32 → i = 8 - j → sum_Step.l0 k (x : Int) i = some ((git j x : Nat) : Int) := by
  induction j with
  | zero =>
    intro k x i _ hk _ hi
    obtain ⟨k, rfl⟩ : ∃ m, k = m + 1 := ⟨k - 1, by omega⟩
    simp only [sum_Step.l0]; rw [if_neg (by omega)]; rfl
  | succ j ih =>
    intro k x i hj hk hx hi
    obtain ⟨k, rfl⟩ : ∃ m, k = m + 1 := ⟨k - 1, by omega⟩
    simp only [sum_Step.l0]; rw [if_pos (by omega), wrap64_in _ (by omega) (by omega)]
    have e1 : Go.bits .and .u32 (x : Int) 1 = ((x % 2 : Nat) : Int) := by
      have := and_u32 x 1 hx (by omega)
      rw [Nat.and_one_is_mod] at this
      exact this
    have e2 : Go.bits .xor .u32 ((x : Int) / 2) (Go.bits .and .u32 ((-(Go.bits .and .u32 (x : Int) 1)) % 4294967296) 3988292384) = ((gg x : Nat) : Int) := by
      rw [e1]
      have e3 : Go.bits .and .u32 ((-((x % 2 : Nat) : Int)) % 4294967296) 3988292384 = (((if x % 2 = 1 then 3988292384 else 0 : Nat)) : Int) := by
        rcases Nat.mod_two_eq_zero_or_one x with h | h
        · rw [h]; decide
        · rw [h]; decide
      rw [e3]
      have e4 : ((x : Int) / 2) = ((x / 2 : Nat) : Int) := by omega
      rw [e4, xor_u32 _ _ (by omega) (by split <;> omega)]
      rfl
    rw [e2]
    exact ih k (gg x) (i + 1) (by omega) (by omega) (gg_lt x hx) (by omega)
theorem sstep_f (k a b : Nat) (hk : 8 < k) (ha : a < 2 ^ 32) (hb : b < 256) : sum_Step.f k (a : Int) (b : Int) = some ((stp a b : Nat) : Int) := by
  unfold sum_Step.f stp
  have e : ((b : Int) % 4294967296) = (b : Int) := by omega
  rw [e, xor_u32 a b ha (by omega)]
  exact sstep_l0 8 k _ 0 (by omega) hk (Nat.xor_lt_two_pow ha (by omega)) (by omega)
theorem rstep_l0 (j : Nat) : ∀ (k x : Nat) (i : Int), j ≤ 8 → j < k → x < 2 ^ 32 → i = 8 - j → cubbyref01_Step.l0 k (x : Int) i = some ((git j x : Nat) : Int) := by
  induction j with
  | zero =>
    intro k x i _ hk _ hi
    obtain ⟨k, rfl⟩ : ∃ m, k = m + 1 := ⟨k - 1, by omega⟩
    simp only [cubbyref01_Step.l0]; rw [if_neg (by omega)]; rfl
  | succ j ih =>
    intro k x i hj hk hx hi
    obtain ⟨k, rfl⟩ : ∃ m, k = m + 1 := ⟨k - 1, by omega⟩
    have e1 : (Int.tdiv (x : Int) 2) % 4294967296 = ((x / 2 : Nat) : Int) := by
      rw [Int.tdiv_eq_ediv_of_nonneg (by omega)]; omega
    have e0 : Int.tmod (x : Int) 2 = ((x % 2 : Nat) : Int) := by
      rw [Int.tmod_eq_emod_of_nonneg (by omega)]; omega
    simp only [cubbyref01_Step.l0]; rw [if_pos (by omega), wrap64_in _ (by omega) (by omega), e0, e1]
    by_cases h : x % 2 = 1
    · rw [if_pos (by omega)]
      have e2 : Go.bits .xor .u32 ((x / 2 : Nat) : Int) 3988292384 = ((gg x : Nat) : Int) := by
        have := xor_u32 (x / 2) 3988292384 (by omega) (by omega)
        unfold gg; rw [if_pos h]; exact this
      rw [e2]
      exact ih k (gg x) (i + 1) (by omega) (by omega) (gg_lt x hx) (by omega)
    · rw [if_neg (by omega)]
      have e2 : x / 2 = gg x := by unfold gg; rw [if_neg h, Nat.xor_zero]
      rw [e2]
      exact ih k (gg x) (i + 1) (by omega) (by omega) (gg_lt x hx) (by omega)
theorem rstep_f (k a b : Nat) (hk : 8 < k) (ha : a < 2 ^ 32) (hb : b < 256) : cubbyref01_Step.f k (a : Int) (b : Int) = some ((stp a b : Nat) : Int) := by
  unfold cubbyref01_Step.f stp
  have e : ((b : Int) % 4294967296) = (b : Int) := by omega
  rw [e, xor_u32 a b ha (by omega)]
  exact rstep_l0 8 k _ 0 (by omega) hk (Nat.xor_lt_two_pow ha (by omega)) (by omega)
theorem wf_u32 (a : Int) (h : (Lit.int .u32 a).wf = true) : ∃ n : Nat, a = (n : Int) ∧ n < 2 ^ 32 := by
  simp [Lit.wf, IntKind.min, IntKind.max, IntKind.signed, IntKind.bits] at h
  exact ⟨a.toNat, by omega, by omega⟩
theorem wf_u8 (a : Int) (h : (Lit.int .u8 a).wf = true) : ∃ n : Nat, a = (n : Int) ∧ n < 256 := by
  simp [Lit.wf, IntKind.min, IntKind.max, IntKind.signed, IntKind.bits] at h
  exact ⟨a.toNat, by omega, by omega⟩

/-- d bytes of s from place i on, taken into the sum c. -/
def cgo (s : ByteArray) : Nat → Int → Nat → Nat
  | 0, _, c => c
  | d + 1, i, c => cgo s d (i + 1) (stp c (bt s i).toNat)
theorem bt_nat (s : ByteArray) (i : Int) : ∃ n : Nat, bt s i = (n : Int) ∧ n < 256 := by
  have := bt_range s i
  exact ⟨(bt s i).toNat, by omega, by omega⟩
theorem bt_lt (s : ByteArray) (i : Int) : (bt s i).toNat < 256 := by have := bt_range s i; omega
theorem bt_cast (s : ByteArray) (i : Int) : (((bt s i).toNat : Nat) : Int) = bt s i := by have := bt_range s i; omega
theorem cgo_lt (s : ByteArray) (d : Nat) : ∀ (i : Int) (c : Nat), c < 2 ^ 32 → cgo s d i c < 2 ^ 32 := by
  induction d with
  | zero => intro i c h; exact h
  | succ d ih => intro i c h; exact ih _ _ (stp_lt _ _ h (bt_lt s i))
theorem scrc_l0 (s : ByteArray) (hs : s.size ≤ 9223372036854775807) (d : Nat) : ∀ (k : Nat) (i : Int) (c : Nat), 0 ≤ i → i + d = s.size → d + 9 < k → c < 2 ^ 32 → sum_Crc.l0 k s (c : Int) (s.size : Int) i = some ((4294967295 ^^^ cgo s d i c : Nat) : Int) := by
  induction d with
  | zero =>
    intro k i c h0 h1 hk hc
    obtain ⟨k, rfl⟩ : ∃ m, k = m + 1 := ⟨k - 1, by omega⟩
    simp only [sum_Crc.l0]; rw [if_neg (by omega)]
    exact congrArg some (xor_u32 4294967295 c (by omega) hc)
  | succ d ih =>
    intro k i c h0 h1 hk hc
    obtain ⟨k, rfl⟩ : ∃ m, k = m + 1 := ⟨k - 1, by omega⟩
    simp only [sum_Crc.l0]; rw [if_pos (by omega), if_pos h0, if_pos (by omega), wrap64_in _ (by omega) (by omega), ← bt_cast, sstep_f k c _ (by omega) hc (bt_lt s i)]
    simp only [Option.bind_some]
    exact ih k (i + 1) _ (by omega) (by omega) (by omega) (stp_lt _ _ hc (bt_lt s i))
theorem rcrc_l0 (s : ByteArray) (hs : s.size ≤ 9223372036854775807) (d : Nat) : ∀ (k : Nat) (i : Int) (c : Nat), 0 ≤ i → i + d = s.size → d + 9 < k → c < 2 ^ 32 → cubbyref01_Crc.l0 k s (c : Int) i = some ((4294967295 ^^^ cgo s d i c : Nat) : Int) := by
  induction d with
  | zero =>
    intro k i c h0 h1 hk hc
    obtain ⟨k, rfl⟩ : ∃ m, k = m + 1 := ⟨k - 1, by omega⟩
    simp only [cubbyref01_Crc.l0]; rw [if_neg (by omega), Nat.xor_comm]
    exact congrArg some (xor_u32 c 4294967295 hc (by omega))
  | succ d ih =>
    intro k i c h0 h1 hk hc
    obtain ⟨k, rfl⟩ : ∃ m, k = m + 1 := ⟨k - 1, by omega⟩
    simp only [cubbyref01_Crc.l0]; rw [if_pos (by omega), if_pos h0, wrap64_in _ (by omega) (by omega), ← bt_cast, rstep_f k c _ (by omega) hc (bt_lt s i)]
    simp only [Option.bind_some]
    exact ih k (i + 1) _ (by omega) (by omega) (by omega) (stp_lt _ _ hc (bt_lt s i))
/-- The check sum. -/
def crcd (s : ByteArray) : Nat := 4294967295 ^^^ cgo s s.size 0 4294967295
theorem crcd_lt (s : ByteArray) : crcd s < 2 ^ 32 := Nat.xor_lt_two_pow (by omega) (cgo_lt s _ _ _ (by omega))
theorem scrc_f (s : ByteArray) (k : Nat) (hs : s.size ≤ 9223372036854775807) (hk : s.size + 9 < k) : sum_Crc.f k s = some ((crcd s : Nat) : Int) :=
  scrc_l0 s hs s.size k 0 4294967295 (by omega) (by omega) hk (by omega)
theorem rcrc_f (s : ByteArray) (k : Nat) (hs : s.size ≤ 9223372036854775807) (hk : s.size + 9 < k) : cubbyref01_Crc.f k s = some ((crcd s : Nat) : Int) :=
  rcrc_l0 s hs s.size k 0 4294967295 (by omega) (by omega) hk (by omega)
theorem cgo_add (s : ByteArray) (m d : Nat) : ∀ (i : Int) (c : Nat), cgo s (d + m) i c = cgo s m (i + d) (cgo s d i c) := by
  induction d with
  | zero => intro i c; rw [Nat.zero_add]; simp [cgo]
  | succ d ih =>
    intro i c
    rw [show d + 1 + m = (d + m) + 1 by omega]
    simp only [cgo]
    rw [ih]
    congr 1
    omega
theorem cgo_congr (s t : ByteArray) (e : Int) (d : Nat) : ∀ (i : Int) (c : Nat), (∀ j : Nat, j < d → bt s (i + j) = bt t (i + e + j)) → cgo s d i c = cgo t d (i + e) c := by
  induction d with
  | zero => intro i c _; rfl
  | succ d ih =>
    intro i c h
    simp only [cgo]
    have h0 : bt s i = bt t (i + e) := by simpa using h 0 (by omega)
    rw [h0, ih (i + 1) _ (fun j hj => by have := h (j + 1) (by omega); rw [show i + 1 + (j : Int) = i + ((j + 1 : Nat) : Int) by omega, this]; congr 1; omega)]
    congr 1
    omega
theorem cgo_inj (s : ByteArray) (d : Nat) : ∀ (i : Int) (a c : Nat), a < 2 ^ 32 → c < 2 ^ 32 → cgo s d i a = cgo s d i c → a = c := by
  induction d with
  | zero => intro i a c _ _ h; exact h
  | succ d ih => intro i a c ha hc h; exact stp_injl _ _ _ ha hc (bt_lt s i) (ih _ _ _ (stp_lt _ _ ha (bt_lt s i)) (stp_lt _ _ hc (bt_lt s i)) h)

theorem bt_left (s t : ByteArray) (i : Int) (h0 : 0 ≤ i) (h : i < s.size) : bt (s ++ t) i = bt s i := by
  have h1 : i.toNat < s.size := by omega
  have h2 : i.toNat < (s ++ t).size := by rw [ByteArray.size_append]; omega
  unfold bt
  rw [dif_pos h1, dif_pos h2, ByteArray.getElem_append_left h1]
theorem bt_right (s t : ByteArray) (i : Int) (h0 : 0 ≤ i) (h : i < t.size) : bt (s ++ t) (s.size + i) = bt t i := by
  have h1 : i.toNat < t.size := by omega
  have h2 : ((s.size : Int) + i).toNat < (s ++ t).size := by rw [ByteArray.size_append]; omega
  have h3 : s.size ≤ ((s.size : Int) + i).toNat := by omega
  have h4 : ((s.size : Int) + i).toNat - s.size = i.toNat := by omega
  unfold bt
  rw [dif_pos h1, dif_pos h2, ByteArray.getElem_append_right h3]
  simp only [h4]
theorem bt_nums (xs : List Int) (i : Int) (h : i.toNat < xs.length) (hb : ∀ x ∈ xs, 0 ≤ x ∧ x ≤ 255) : bt (strOfNums xs) i = xs.getD i.toNat 0 := by
  have hi : i.toNat < (strOfNums xs).size := by rw [strOfNums_size]; exact h
  have hx := hb _ (List.getElem_mem h)
  unfold bt
  rw [dif_pos hi]
  have e1 : (strOfNums xs)[i.toNat] = UInt8.ofNat (xs[i.toNat]).toNat := by
    show ((xs.map fun n => UInt8.ofNat n.toNat).toArray)[i.toNat]'(by simpa using h) = _
    simp
  rw [e1, List.getD_eq_getElem?_getD, List.getElem?_eq_getElem h, Option.getD_some]
  simp
  omega

theorem gg_xor (x y : Nat) : gg (x ^^^ y) = gg x ^^^ gg y := by
  have h1 : (x ^^^ y) / 2 = x / 2 ^^^ y / 2 := Nat.xor_div_two
  have h2 : (x ^^^ y) % 2 = 1 ↔ ¬ (x % 2 = 1 ↔ y % 2 = 1) := by
    have := Nat.xor_mod_two_eq_one (a := x) (b := y)
    exact this
  have ac : ∀ a b c d : Nat, (a ^^^ b) ^^^ (c ^^^ d) = (a ^^^ c) ^^^ (b ^^^ d) := by
    intro a b c d
    rw [Nat.xor_assoc, ← Nat.xor_assoc b, Nat.xor_comm b c, Nat.xor_assoc c, ← Nat.xor_assoc]
  unfold gg
  rw [h1, ac]
  congr 1
  by_cases p : x % 2 = 1 <;> by_cases q : y % 2 = 1
  · rw [if_pos p, if_pos q, if_neg (by rw [h2]; simp [p, q]), Nat.xor_self]
  · rw [if_pos p, if_neg q, if_pos (by rw [h2]; simp [p, q]), Nat.xor_zero]
  · rw [if_neg p, if_pos q, if_pos (by rw [h2]; simp [p, q]), Nat.zero_xor]
  · rw [if_neg p, if_neg q, if_neg (by rw [h2]; simp [p, q])]; rfl
theorem git_xor (j : Nat) : ∀ x y, git j (x ^^^ y) = git j x ^^^ git j y := by
  induction j with
  | zero => intro x y; rfl
  | succ j ih => intro x y; simp only [git]; rw [gg_xor, ih]
theorem ac4 (a b c d : Nat) : (a ^^^ b) ^^^ (c ^^^ d) = (a ^^^ c) ^^^ (b ^^^ d) := by
  rw [Nat.xor_assoc, ← Nat.xor_assoc b, Nat.xor_comm b c, Nat.xor_assoc c, ← Nat.xor_assoc]
theorem stp_xor (a b c d : Nat) : stp (a ^^^ c) (b ^^^ d) = stp a b ^^^ stp c d := by
  unfold stp; rw [ac4, git_xor]
theorem cgo_xor (s t u v : ByteArray) (d : Nat) : ∀ (i : Int) (a b c : Nat), (∀ j : Nat, j < d → (bt v (i + j)).toNat = (bt s (i + j)).toNat ^^^ (bt t (i + j)).toNat ^^^ (bt u (i + j)).toNat) →
    cgo v d i (a ^^^ b ^^^ c) = cgo s d i a ^^^ cgo t d i b ^^^ cgo u d i c := by
  induction d with
  | zero => intro i a b c _; rfl
  | succ d ih =>
    intro i a b c h
    simp only [cgo]
    have h0 : (bt v i).toNat = (bt s i).toNat ^^^ (bt t i).toNat ^^^ (bt u i).toNat := by simpa using h 0 (by omega)
    rw [h0, stp_xor, stp_xor]
    exact ih (i + 1) _ _ _ (fun j hj => by have := h (j + 1) (by omega); rw [show i + 1 + (j : Int) = i + ((j + 1 : Nat) : Int) by omega]; exact this)
theorem bits_u8 (a : Nat) (ha : a < 256) : (BitVec.ofInt IntKind.u8.bits (a : Int)).toNat = a := by
  rw [BitVec.ofInt_natCast, BitVec.toNat_ofNat]
  exact Nat.mod_eq_of_lt ha
theorem xor_u8 (a b : Nat) (ha : a < 2 ^ 8) (hb : b < 2 ^ 8) : Go.bits .xor .u8 (a : Int) (b : Int) = ((a ^^^ b : Nat) : Int) := by
  have hx : a ^^^ b < 2 ^ 8 := Nat.xor_lt_two_pow ha hb
  unfold Go.bits
  simp only [BitVec.toNat_xor, bits_u8 a ha, bits_u8 b hb]
  rw [IntKind.wrap_u8]
  omega
/-- The mixed byte at i. -/
def mxb (s t u : ByteArray) (i : Int) : Nat := (bt s i).toNat ^^^ (bt t i).toNat ^^^ (bt u i).toNat
theorem mxb_lt (s t u : ByteArray) (i : Int) : mxb s t u i < 256 := Nat.xor_lt_two_pow (n := 8) (Nat.xor_lt_two_pow (n := 8) (bt_lt s i) (bt_lt t i)) (bt_lt u i)
theorem mxb_go (s t u : ByteArray) (i : Int) : Go.bits .xor .u8 (Go.bits .xor .u8 (bt s i) (bt t i)) (bt u i) = ((mxb s t u i : Nat) : Int) := by
  rw [← bt_cast s, ← bt_cast t, ← bt_cast u, xor_u8 _ _ (bt_lt s i) (bt_lt t i), xor_u8 _ _ (Nat.xor_lt_two_pow (n := 8) (bt_lt s i) (bt_lt t i)) (bt_lt u i)]
  rfl
def mxl (s t u : ByteArray) (n : Nat) : List Int := (List.range n).map fun (j : Nat) => ((mxb s t u (j : Int) : Nat) : Int)
theorem turned_end (s t u : ByteArray) (hs : s.size ≤ 1024) (ht : s.size = t.size) (hu : s.size = u.size) :
    crcd (strOfNums (mxl s t u s.size)) = crcd s ^^^ crcd t ^^^ crcd u := by
  have hz : (strOfNums (mxl s t u s.size)).size = s.size := by rw [strOfNums_size]; simp [mxl]
  have h := cgo_xor s t u (strOfNums (mxl s t u s.size)) s.size 0 4294967295 4294967295 4294967295 (fun j hj => by
    rw [Int.zero_add, bt_nums _ _ (by simp [mxl]; omega) (by
      intro x hx
      simp only [mxl, List.mem_map] at hx
      obtain ⟨i, _, rfl⟩ := hx
      have := mxb_lt s t u i
      omega)]
    have e : (mxl s t u s.size).getD (j : Int).toNat 0 = ((mxb s t u j : Nat) : Int) := by
      simp [mxl, List.getD_eq_getElem?_getD, hj]
    rw [e]; rfl)
  have e0 : (4294967295 ^^^ 4294967295 ^^^ 4294967295 : Nat) = 4294967295 := by decide
  rw [e0] at h
  unfold crcd
  rw [hz, ← ht, ← hu, h]
  generalize cgo s s.size 0 4294967295 = A
  generalize cgo t s.size 0 4294967295 = B
  generalize cgo u s.size 0 4294967295 = C
  rw [ac4 4294967295 A 4294967295 B, Nat.xor_self, Nat.zero_xor, ← Nat.xor_assoc (A ^^^ B) 4294967295 C, Nat.xor_comm (A ^^^ B) 4294967295]
  simp only [Nat.xor_assoc]
theorem turned_l0 (s t u : ByteArray) (hs : s.size ≤ 1024) (ht : s.size = t.size) (hu : s.size = u.size) (d : Nat) : ∀ (k : Nat) (i : Nat), i + d = s.size → d + 2000 < k →
    cubbylaw01_SumTurned.l0 k s t u (mxl s t u i) (i : Int) = some true := by
  induction d with
  | zero =>
    intro k i h1 hk
    obtain ⟨k, rfl⟩ : ∃ m, k = m + 1 := ⟨k - 1, by omega⟩
    obtain rfl : i = s.size := by omega
    have hz : (strOfNums (mxl s t u s.size)).size = s.size := by rw [strOfNums_size]; simp [mxl]
    simp only [cubbylaw01_SumTurned.l0]
    rw [if_neg (by omega), scrc_f _ _ (by omega) (by omega), scrc_f s _ (by omega) (by omega), scrc_f t _ (by omega) (by omega), scrc_f u _ (by omega) (by omega), rcrc_f s _ (by omega) (by omega)]
    simp only [Option.bind_some]
    rw [xor_u32 _ _ (crcd_lt s) (crcd_lt t), xor_u32 _ _ (Nat.xor_lt_two_pow (crcd_lt s) (crcd_lt t)) (crcd_lt u), turned_end s t u hs ht hu, if_pos rfl]
    simp
  | succ d ih =>
    intro k i h1 hk
    obtain ⟨k, rfl⟩ : ∃ m, k = m + 1 := ⟨k - 1, by omega⟩
    have hl : (mxl s t u i).length = i := by simp [mxl]
    simp only [cubbylaw01_SumTurned.l0]
    rw [if_pos (by omega), if_pos (by omega), if_pos (by omega), if_pos (by omega), if_pos (by omega), wrap64_in _ (by omega) (by omega), mxb_go]
    have e : mxl s t u i ++ [((mxb s t u (i : Int) : Nat) : Int)] = mxl s t u (i + 1) := by
      simp [mxl, List.range_succ]
    rw [e]
    exact ih k (i + 1) (by omega) (by omega)
theorem SumTurned : cubbylaw01_SumTurned.Pure := by
  intro s t u hs ht hu
  refine ⟨9000, ?_⟩
  have j1 : cubbylaw01_SumTurned.j0 9000 s t u true = some true := by
    show cubbylaw01_SumTurned.j0 (8999 + 1) s t u true = some true
    simp only [cubbylaw01_SumTurned.j0]; rw [if_pos trivial]
    have h3 : (⟨#[97, 98, 99]⟩ : ByteArray).size = 3 := rfl
    rw [scrc_f _ _ (by omega) (by omega), rcrc_f _ _ (by omega) (by omega)]
    simp
  unfold cubbylaw01_SumTurned.f
  by_cases hb : (s.size : Int) > 1024
  · rw [if_pos hb]; exact j1
  rw [if_neg hb]
  by_cases hc : (s.size : Int) = (t.size : Int)
  · rw [if_pos hc]
    by_cases hd : (s.size : Int) = (u.size : Int)
    · rw [show ((s.size : Int) != (u.size : Int)) = false by simp [hd]]
      show cubbylaw01_SumTurned.j0 (8999 + 1) s t u false = some true
      simp only [cubbylaw01_SumTurned.j0]
      rw [if_neg (by simp)]
      exact turned_l0 s t u (by omega) (by omega) (by omega) s.size 8999 0 (by omega) (by omega)
    · rw [show ((s.size : Int) != (u.size : Int)) = true by simpa using hd]; exact j1
  · rw [if_neg hc]; exact j1

end Go.Proofs.Ytcajpaflaeaakaa.Pure
