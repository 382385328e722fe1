/- The pure law behind SumOne: for every input that its bounds let in, the law's function answers true. Conditions: none. -/
import Derived.Test.YtcajpaflaeaakaaPSumOnex2
set_option linter.unusedVariables false
namespace Go.Proofs.Ytcajpaflaeaakaa.Pure
open Go.RowKit Go.Proofs.Ytcajpaflaeaakaa.PSumOne Go.Proofs.YtcajpaflaeaakaaW.PrintWords Go.Proofs.YtcajpaflaeaakaaW.PrintLast

/-- One shift of the sum, over natural numbers. -/
def gg (x : Nat) : Nat := (x / 2) ^^^ (if x % 2 = 1 then 3988292384 else 0)
def git : Nat → Nat → Nat
  | 0, x => x
  | j + 1, x => git j (gg x)
theorem bits_u32 (a : Nat) (ha : a < 2 ^ 32) : (BitVec.ofInt IntKind.u32.bits (a : Int)).toNat = a := by
  rw [BitVec.ofInt_natCast, BitVec.toNat_ofNat]
  exact Nat.mod_eq_of_lt ha
theorem xor_u32 (a b : Nat) (ha : a < 2 ^ 32) (hb : b < 2 ^ 32) : Go.bits .xor .u32 (a : Int) (b : Int) = ((a ^^^ b : Nat) : Int) := by
  have hx : a ^^^ b < 2 ^ 32 := Nat.xor_lt_two_pow ha hb
  unfold Go.bits
  simp only [BitVec.toNat_xor, bits_u32 a ha, bits_u32 b hb]
  rw [IntKind.wrap_u32]
  omega
theorem and_u32 (a b : Nat) (ha : a < 2 ^ 32) (hb : b < 2 ^ 32) : Go.bits .and .u32 (a : Int) (b : Int) = ((a &&& b : Nat) : Int) := by
  have hx : a &&& b < 2 ^ 32 := Nat.and_lt_two_pow _ hb
  unfold Go.bits
  simp only [BitVec.toNat_and, bits_u32 a ha, bits_u32 b hb]
  rw [IntKind.wrap_u32]
  omega
theorem gg_lt (x : Nat) (h : x < 2 ^ 32) : gg x < 2 ^ 32 := by
  unfold gg
  refine Nat.xor_lt_two_pow (by omega) ?_
  split <;> omega
theorem git_lt (j : Nat) : ∀ x, x < 2 ^ 32 → git j x < 2 ^ 32 := by
  induction j with
  | zero => intro x h; exact h
  | succ j ih => intro x h; exact ih _ (gg_lt x h)
theorem xor_high (a : Nat) (h : a < 2 ^ 31) : 2 ^ 31 ≤ a ^^^ 3988292384 := by
  have h1 : (a ^^^ 3988292384).testBit 31 = true := by
    rw [Nat.testBit_xor, Nat.testBit_lt_two_pow h]; decide
  exact Nat.ge_two_pow_of_testBit h1
theorem gg_inj (x y : Nat) (hx : x < 2 ^ 32) (hy : y < 2 ^ 32) (h : gg x = gg y) : x = y := by
  have e1 : x / 2 < 2 ^ 31 := by omega
  have e2 : y / 2 < 2 ^ 31 := by omega
  have k1 := xor_high _ e1
  have k2 := xor_high _ e2
  have c : ∀ p q r : Nat, p ^^^ r = q ^^^ r → p = q := fun p q r hh => by
    have := congrArg (· ^^^ r) hh
    simpa [Nat.xor_assoc, Nat.xor_self, Nat.xor_zero] using this
  unfold gg at h
  by_cases p : x % 2 = 1 <;> by_cases q : y % 2 = 1
  · rw [if_pos p, if_pos q] at h; have := c _ _ _ h; omega
  · rw [if_pos p, if_neg q, Nat.xor_zero] at h; omega
  · rw [if_neg p, if_pos q, Nat.xor_zero] at h; omega
  · rw [if_neg p, if_neg q] at h; have := c _ _ _ h; omega
theorem git_inj (j : Nat) : ∀ x y, x < 2 ^ 32 → y < 2 ^ 32 → git j x = git j y → x = y := by
  induction j with
  | zero => intro x y _ _ h; exact h
  | succ j ih => intro x y hx hy h; exact gg_inj x y hx hy (ih _ _ (gg_lt x hx) (gg_lt y hy) h)
/-- A byte taken into a sum. -/
def stp (a b : Nat) : Nat := git 8 (a ^^^ b)
theorem stp_lt (a b : Nat) (ha : a < 2 ^ 32) (hb : b < 256) : stp a b < 2 ^ 32 := git_lt 8 _ (Nat.xor_lt_two_pow ha (by omega))
theorem xor_canc (p q r : Nat) (hh : p ^^^ r = q ^^^ r) : p = q := by
  have := congrArg (· ^^^ r) hh
  simpa [Nat.xor_assoc, Nat.xor_self, Nat.xor_zero] using this
theorem xor_cancl (r p q : Nat) (hh : r ^^^ p = r ^^^ q) : p = q := xor_canc p q r (by rw [Nat.xor_comm p, Nat.xor_comm q]; exact hh)
theorem stp_injl (a c b : Nat) (ha : a < 2 ^ 32) (hc : c < 2 ^ 32) (hb : b < 256) (h : stp a b = stp c b) : a = c :=
  xor_canc _ _ _ (git_inj 8 _ _ (Nat.xor_lt_two_pow ha (by omega)) (Nat.xor_lt_two_pow hc (by omega)) h)
theorem stp_injr (a b d : Nat) (ha : a < 2 ^ 32) (hb : b < 256) (hd : d < 256) (h : stp a b = stp a d) : b = d :=
  xor_cancl _ _ _ (git_inj 8 _ _ (Nat.xor_lt_two_pow ha (by omega)) (Nat.xor_lt_two_pow ha (by omega)) h)

theorem wrap64_in (n : Int) (h : 0 ≤ n) (h2 : n < 9223372036854775808) : wrap64 n = n := by unfold wrap64; omega
theorem sstep_l0 (j : Nat) : ∀ (k x : Nat) (i : Int), j ≤ 8 → j < k → x < 2 ^ 32 → i = 8 - j → sum_Step.l0 k (x : Int) i = some ((git j x : Nat) : Int) := by
  induction j with
  | zero =>
    intro k x i _ hk _ hi
    obtain ⟨k, rfl⟩ : ∃ m, k = m + 1 := ⟨k - 1, by omega⟩
    simp only [sum_Step.l0]; rw [if_neg (by omega)]; rfl
  | succ j ih =>
    intro k x i hj hk hx hi
    obtain ⟨k, rfl⟩ : ∃ m, k = m + 1 := ⟨k - 1, by omega⟩
    simp only [sum_Step.l0]; rw [if_pos (by omega), wrap64_in _ (by omega) (by omega)]
    have e1 : Go.bits .and .u32 (x : Int) 1 = ((x % 2 : Nat) : Int) := by
      have := and_u32 x 1 hx (by omega)
      rw [Nat.and_one_is_mod] at this
      exact this
    have e2 : Go.bits .xor .u32 ((x : Int) / 2) (Go.bits .and .u32 ((-(Go.bits .and .u32 (x : Int) 1)) % 4294967296) 3988292384) = ((gg x : Nat) : Int) := by
      rw [e1]
      have e3 : Go.bits .and .u32 ((-((x % 2 : Nat) : Int)) % 4294967296) 3988292384 = (((if x % 2 = 1 then 3988292384 else 0 : Nat)) : Int) := by
        rcases Nat.mod_two_eq_zero_or_one x with h | h
        · rw [h]; decide
        · rw [h]; decide
      rw [e3]
      have e4 : ((x : Int) / 2) = ((x / 2 : Nat) : Int) := by omega
      rw [e4, xor_u32 _ _ (by omega) (by split <;> omega)]
      rfl
    rw [e2]
    exact ih k (gg x) (i + 1) (by omega) (by omega) (gg_lt x hx) (by omega)
theorem sstep_f (k a b : Nat) (hk : 8 < k) (ha : a < 2 ^ 32) (hb : b < 256) : sum_Step.f k (a : Int) (b : Int) = some ((stp a b : Nat) : Int) := by
  unfold sum_Step.f stp
  have e : ((b : Int) % 4294967296) = (b : Int) := by omega
  rw [e, xor_u32 a b ha (by omega)]
  exact sstep_l0 8 k _ 0 (by omega) hk (Nat.xor_lt_two_pow ha (by omega)) (by omega)
theorem rstep_l0 (j : Nat) : ∀ (k x : Nat) (i : Int), j ≤ 8 → j < k → x < 2 ^ 32 → i = 8 - j → cubbyref01_Step.l0 k (x : Int) i = some ((git j x : Nat) : Int) := by
  induction j with
  | zero =>
    intro k x i _ hk _ hi
    obtain ⟨k, rfl⟩ : ∃ m, k = m + 1 := ⟨k - 1, by omega⟩
    simp only [cubbyref01_Step.l0]; rw [if_neg (by omega)]; rfl
  | succ j ih =>
    intro k x i hj hk hx hi
    obtain ⟨k, rfl⟩ : ∃ m, k = m + 1 := ⟨k - 1, by omega⟩
    have e1 : (Int.tdiv (x : Int) 2) % 4294967296 = ((x / 2 : Nat) : Int) := by
      rw [Int.tdiv_eq_ediv_of_nonneg (by omega)]; omega
    have e0 : Int.tmod (x : Int) 2 = ((x % 2 : Nat) : Int) := by
      rw [Int.tmod_eq_emod_of_nonneg (by omega)]; omega
    simp only [cubbyref01_Step.l0]; rw [if_pos (by omega), wrap64_in _ (by omega) (by omega), e0, e1]
    by_cases h : x % 2 = 1
    · rw [if_pos (by omega)]
      have e2 : Go.bits .xor .u32 ((x / 2 : Nat) : Int) 3988292384 = ((gg x : Nat) : Int) := by
        have := xor_u32 (x / 2) 3988292384 (by omega) (by omega)
        unfold gg; rw [if_pos h]; exact this
      rw [e2]
      exact ih k (gg x) (i + 1) (by omega) (by omega) (gg_lt x hx) (by omega)
    · rw [if_neg (by omega)]
      have e2 : x / 2 = gg x := by unfold gg; rw [if_neg h, Nat.xor_zero]
      rw [e2]
      exact ih k (gg x) (i + 1) (by omega) (by omega) (gg_lt x hx) (by omega)
theorem rstep_f (k a b : Nat) (hk : 8 < k) (ha : a < 2 ^ 32) (hb : b < 256) : cubbyref01_Step.f k (a : Int) (b : Int) = some ((stp a b : Nat) : Int) := by
  unfold cubbyref01_Step.f stp
  have e : ((b : Int) % 4294967296) = (b : Int) := by omega
  rw [e, xor_u32 a b ha (by omega)]
  exact rstep_l0 8 k _ 0 (by omega) hk (Nat.xor_lt_two_pow ha (by omega)) (by omega)
theorem wf_u32 (a : Int) (h : (Lit.int .u32 a).wf = true) : ∃ n : Nat, a = (n : Int) ∧ n < 2 ^ 32 := by
  simp [Lit.wf, IntKind.min, IntKind.max, IntKind.signed, IntKind.bits] at h
  exact ⟨a.toNat, by omega, by omega⟩
theorem wf_u8 (a : Int) (h : (Lit.int .u8 a).wf = true) : ∃ n : Nat, a = (n : Int) ∧ n < 256 := by
  simp [Lit.wf, IntKind.min, IntKind.max, IntKind.signed, IntKind.bits] at h
  exact ⟨a.toNat, by omega, by omega⟩

/-- d bytes of s from place i on, taken into the sum c. -/
def cgo (s : ByteArray) : Nat → Int → Nat → Nat
  | 0, _, c => c
  | d + 1, i, c => cgo s d (i + 1) (stp c (bt s i).toNat)
theorem bt_nat (s : ByteArray) (i : Int) : ∃ n : Nat, bt s i = (n : Int) ∧ n < 256 := by
  have := bt_range s i
  exact ⟨(bt s i).toNat, by omega, by omega⟩
theorem bt_lt (s : ByteArray) (i : Int) : (bt s i).toNat < 256 := by have := bt_range s i; omega
theorem bt_cast (s : ByteArray) (i : Int) : (((bt s i).toNat : Nat) : Int) = bt s i := by have := bt_range s i; omega
theorem cgo_lt (s : ByteArray) (d : Nat) : ∀ (i : Int) (c : Nat), c < 2 ^ 32 → cgo s d i c < 2 ^ 32 := by
  induction d with
  | zero => intro i c h; exact h
  | succ d ih => intro i c h; exact ih _ _ (stp_lt _ _ h (bt_lt s i))
theorem scrc_l0 (s : ByteArray) (hs : s.size ≤ 9223372036854775807) (d : Nat) : ∀ (k : Nat) (i : Int) (c : Nat), 0 ≤ i → i + d = s.size → d + 9 < k → c < 2 ^ 32 → sum_Crc.l0 k s (c : Int) (s.size : Int) i = some ((4294967295 ^^^ cgo s d i c : Nat) : Int) := by
  induction d with
  | zero =>
    intro k i c h0 h1 hk hc
    obtain ⟨k, rfl⟩ : ∃ m, k = m + 1 := ⟨k - 1, by omega⟩
    simp only [sum_Crc.l0]; rw [if_neg (by omega)]
    exact congrArg some (xor_u32 4294967295 c (by omega) hc)
  | succ d ih =>
    intro k i c h0 h1 hk hc
    obtain ⟨k, rfl⟩ : ∃ m, k = m + 1 := ⟨k - 1, by omega⟩
    simp only [sum_Crc.l0]; rw [if_pos (by omega), if_pos h0, if_pos (by omega), wrap64_in _ (by omega) (by omega), ← bt_cast, sstep_f k c _ (by omega) hc (bt_lt s i)]
    simp only [Option.bind_some]
    exact ih k (i + 1) _ (by omega) (by omega) (by omega) (stp_lt _ _ hc (bt_lt s i))
theorem rcrc_l0 (s : ByteArray) (hs : s.size ≤ 9223372036854775807) (d : Nat) : ∀ (k : Nat) (i : Int) (c : Nat), 0 ≤ i → i + d = s.size → d + 9 < k → c < 2 ^ 32 → cubbyref01_Crc.l0 k s (c : Int) i = some ((4294967295 ^^^ cgo s d i c : Nat) : Int) := by
  induction d with
  | zero =>
    intro k i c h0 h1 hk hc
    obtain ⟨k, rfl⟩ : ∃ m, k = m + 1 := ⟨k - 1, by omega⟩
    simp only [cubbyref01_Crc.l0]; rw [if_neg (by omega), Nat.xor_comm]
    exact congrArg some (xor_u32 c 4294967295 hc (by omega))
  | succ d ih =>
    intro k i c h0 h1 hk hc
    obtain ⟨k, rfl⟩ : ∃ m, k = m + 1 := ⟨k - 1, by omega⟩
    simp only [cubbyref01_Crc.l0]; rw [if_pos (by omega), if_pos h0, wrap64_in _ (by omega) (by omega), ← bt_cast, rstep_f k c _ (by omega) hc (bt_lt s i)]
    simp only [Option.bind_some]
    exact ih k (i + 1) _ (by omega) (by omega) (by omega) (stp_lt _ _ hc (bt_lt s i))
/-- The check sum. -/
def crcd (s : ByteArray) : Nat := 4294967295 ^^^ cgo s s.size 0 4294967295
theorem crcd_lt (s : ByteArray) : crcd s < 2 ^ 32 := Nat.xor_lt_two_pow (by omega) (cgo_lt s _ _ _ (by omega))
theorem scrc_f (s : ByteArray) (k : Nat) (hs : s.size ≤ 9223372036854775807) (hk : s.size + 9 < k) : sum_Crc.f k s = some ((crcd s : Nat) : Int) :=
  scrc_l0 s hs s.size k 0 4294967295 (by omega) (by omega) hk (by omega)
theorem rcrc_f (s : ByteArray) (k : Nat) (hs : s.size ≤ 9223372036854775807) (hk : s.size + 9 < k) : cubbyref01_Crc.f k s = some ((crcd s : Nat) : Int) :=
  rcrc_l0 s hs s.size k 0 4294967295 (by omega) (by omega) hk (by omega)
theorem cgo_add (s : ByteArray) (m d : Nat) : ∀ (i : Int) (c : Nat), cgo s (d + m) i c = cgo s m (i + d) (cgo s d i c) := by
  induction d with
  | zero => intro i c; rw [Nat.zero_add]; simp [cgo]
  | succ d ih =>
    intro i c
    rw [show d + 1 + m = (d + m) + 1 by omega]
    simp only [cgo]
    rw [ih]
    congr 1
    omega
theorem cgo_congr (s t : ByteArray) (e : Int) (d : Nat) : ∀ (i : Int) (c : Nat), (∀ j : Nat, j < d → bt s (i + j) = bt t (i + e + j)) → cgo s d i c = cgo t d (i + e) c := by
  induction d with
  | zero => intro i c _; rfl
  | succ d ih =>
    intro i c h
    simp only [cgo]
    have h0 : bt s i = bt t (i + e) := by simpa using h 0 (by omega)
    rw [h0, ih (i + 1) _ (fun j hj => by have := h (j + 1) (by omega); rw [show i + 1 + (j : Int) = i + ((j + 1 : Nat) : Int) by omega, this]; congr 1; omega)]
    congr 1
    omega
theorem cgo_inj (s : ByteArray) (d : Nat) : ∀ (i : Int) (a c : Nat), a < 2 ^ 32 → c < 2 ^ 32 → cgo s d i a = cgo s d i c → a = c := by
  induction d with
  | zero => intro i a c _ _ h; exact h
  | succ d ih => intro i a c ha hc h; exact stp_injl _ _ _ ha hc (bt_lt s i) (ih _ _ _ (stp_lt _ _ ha (bt_lt s i)) (stp_lt _ _ hc (bt_lt s i)) h)

theorem bt_left (s t : ByteArray) (i : Int) (h0 : 0 ≤ i) (h : i < s.size) : bt (s ++ t) i = bt s i := by
  have h1 : i.toNat < s.size := by omega
  have h2 : i.toNat < (s ++ t).size := by rw [ByteArray.size_append]; omega
  unfold bt
  rw [dif_pos h1, dif_pos h2, ByteArray.getElem_append_left h1]
theorem bt_right (s t : ByteArray) (i : Int) (h0 : 0 ≤ i) (h : i < t.size) : bt (s ++ t) (s.size + i) = bt t i := by
  have h1 : i.toNat < t.size := by omega
  have h2 : ((s.size : Int) + i).toNat < (s ++ t).size := by rw [ByteArray.size_append]; omega
  have h3 : s.size ≤ ((s.size : Int) + i).toNat := by omega
  have h4 : ((s.size : Int) + i).toNat - s.size = i.toNat := by omega
  unfold bt
  rw [dif_pos h1, dif_pos h2, ByteArray.getElem_append_right h3]
  simp only [h4]
theorem bt_nums (xs : List Int) (i : Int) (h : i.toNat < xs.length) (hb : ∀ x ∈ xs, 0 ≤ x ∧ x ≤ 255) : bt (strOfNums xs) i = xs.getD i.toNat 0 := by
  have hi : i.toNat < (strOfNums xs).size := by rw [strOfNums_size]; exact h
  have hx := hb _ (List.getElem_mem h)
  unfold bt
  rw [dif_pos hi]
  have e1 : (strOfNums xs)[i.toNat] = UInt8.ofNat (xs[i.toNat]).toNat := by
    show ((xs.map fun n => UInt8.ofNat n.toNat).toArray)[i.toNat]'(by simpa using h) = _
    simp
  rw [e1, List.getD_eq_getElem?_getD, List.getElem?_eq_getElem h, Option.getD_some]
  simp
  omega

theorem bt_cut (s : ByteArray) (a b : Nat) (i : Int) (h0 : 0 ≤ i) (h : a + i < b) (hb : b ≤ s.size) : bt (s.extract a b) i = bt s (a + i) := by
  have hz : (s.extract a b).size = b - a := by rw [ByteArray.size_extract]; omega
  have h1 : i.toNat < (s.extract a b).size := by omega
  have h2 : ((a : Int) + i).toNat < s.size := by omega
  unfold bt
  rw [dif_pos h1, dif_pos h2, ByteArray.getElem_extract]
  have h4 : a + i.toNat = ((a : Int) + i).toNat := by omega
  simp only [h4]
theorem one_spot (x : Int) (n : Nat) (h : 0 < n) (hn : n ≤ 1024) : ∃ K : Nat, K < n ∧ Int.tmod (wrap64 (Int.tmod x (n : Int) + (n : Int))) (n : Int) = (K : Int) := by
  have h1 : -(n : Int) < Int.tmod x (n : Int) ∧ Int.tmod x (n : Int) < n := by
    exact ⟨Int.lt_tmod_of_pos x (by omega), Int.tmod_lt_of_pos x (by omega)⟩
  have h2 : wrap64 (Int.tmod x (n : Int) + (n : Int)) = Int.tmod x (n : Int) + (n : Int) := wrap64_in _ (by omega) (by omega)
  rw [h2, Int.tmod_eq_emod_of_nonneg (by omega)]
  have h3 := Int.emod_nonneg (Int.tmod x (n : Int) + (n : Int)) (show (n : Int) ≠ 0 by omega)
  have h4 := Int.emod_lt_of_pos (Int.tmod x (n : Int) + (n : Int)) (show (0 : Int) < (n : Int) by omega)
  exact ⟨((Int.tmod x (n : Int) + (n : Int)) % (n : Int)).toNat, by omega, by omega⟩
/-- s with b at K. -/
def setb (s : ByteArray) (K : Nat) (b : Int) : ByteArray := s.extract 0 K ++ strOfNums [b] ++ s.extract (K + 1) s.size
theorem setb_size (s : ByteArray) (K : Nat) (b : Int) (h : K < s.size) : (setb s K b).size = s.size := by
  unfold setb
  rw [ByteArray.size_append, ByteArray.size_append, strOfNums_size, ByteArray.size_extract, ByteArray.size_extract]
  simp
  omega
theorem setb_at (s : ByteArray) (K : Nat) (b : Int) (h : K < s.size) (h0 : 0 ≤ b) (h1 : b ≤ 255) (i : Int) (hi : 0 ≤ i) (hn : i < s.size) : bt (setb s K b) i = if i = K then b else bt s i := by
  have z1 : (s.extract 0 K).size = K := by rw [ByteArray.size_extract]; omega
  have z2 : (strOfNums [b]).size = 1 := by rw [strOfNums_size]; rfl
  have z3 : (s.extract 0 K ++ strOfNums [b]).size = K + 1 := by rw [ByteArray.size_append]; omega
  have z4 : (s.extract (K + 1) s.size).size = s.size - (K + 1) := by rw [ByteArray.size_extract]; omega
  unfold setb
  by_cases hk : i = K
  · rw [if_pos hk, bt_left _ _ _ hi (by omega)]
    have := bt_right (s.extract 0 K) (strOfNums [b]) 0 (by omega) (by omega)
    rw [z1, Int.add_zero] at this
    rw [hk, this, bt_nums [b] 0 (by simp) (by simp; omega)]
    rfl
  · rw [if_neg hk]
    by_cases hl : i < K
    · rw [bt_left _ _ _ hi (by omega), bt_left _ _ _ hi (by omega), bt_cut s 0 K i hi (by omega) (by omega)]
      simp
    · have := bt_right (s.extract 0 K ++ strOfNums [b]) (s.extract (K + 1) s.size) (i - (K + 1 : Nat)) (by omega) (by omega)
      rw [z3, show ((K + 1 : Nat) : Int) + (i - (K + 1 : Nat)) = i by omega, bt_cut s (K + 1) s.size _ (by omega) (by omega) (by omega), show ((K + 1 : Nat) : Int) + (i - (K + 1 : Nat)) = i by omega] at this
      exact this
theorem setb_crc (s : ByteArray) (K : Nat) (b : Nat) (h : K < s.size) (hb : b < 256) : (crcd s = crcd (setb s K b)) ↔ bt s K = (b : Int) := by
  have hz := setb_size s K b h
  have hat := setb_at s K b h (by omega) (by omega)
  have parts : ∀ t : ByteArray, t.size = s.size → cgo t t.size 0 4294967295 = cgo t (s.size - K - 1) (K + 1) (stp (cgo t K 0 4294967295) (bt t K).toNat) := by
    intro t ht
    rw [ht, show s.size = K + (1 + (s.size - K - 1)) by omega, cgo_add, cgo_add]
    simp only [cgo]
    rw [show K + (1 + (s.size - K - 1)) - K - 1 = s.size - K - 1 by omega, Int.zero_add]
    rfl
  have p1 : cgo (setb s K b) K 0 4294967295 = cgo s K 0 4294967295 := by
    have := cgo_congr (setb s K b) s 0 K 0 4294967295 (fun j hj => by rw [hat _ (by omega) (by omega), if_neg (by omega)]; simp)
    simpa using this
  have p2 : ∀ c, cgo (setb s K b) (s.size - K - 1) (K + 1) c = cgo s (s.size - K - 1) (K + 1) c := by
    intro c
    have := cgo_congr (setb s K b) s 0 (s.size - K - 1) (K + 1) c (fun j hj => by rw [hat _ (by omega) (by omega), if_neg (by omega)]; simp)
    simpa using this
  have p3 : (bt (setb s K b) K).toNat = b := by rw [hat _ (by omega) (by omega), if_pos rfl]; simp
  have hc : cgo s K 0 4294967295 < 2 ^ 32 := cgo_lt _ _ _ _ (by omega)
  have e1 := parts s rfl
  have e2 := parts (setb s K b) hz
  rw [p1, p2, p3] at e2
  unfold crcd
  rw [e1, e2]
  constructor
  · intro hh
    have h1 := xor_cancl _ _ _ hh
    have h2 := cgo_inj s _ _ _ _ (stp_lt _ _ hc (bt_lt s K)) (stp_lt _ _ hc hb) h1
    have h3 := stp_injr _ _ _ hc (bt_lt s K) hb h2
    rw [← bt_cast, h3]
  · intro hh
    rw [hh]; simp
theorem SumOne : cubbylaw01_SumOne.Pure := by
  intro s x b hs wx wb
  obtain ⟨b, rfl, hb⟩ := wf_u8 b wb
  refine ⟨9000, ?_⟩
  have j1 : cubbylaw01_SumOne.j0 9000 s x b true = some true := by
    show cubbylaw01_SumOne.j0 (8999 + 1) s x b true = some true
    simp only [cubbylaw01_SumOne.j0]; rw [if_pos trivial]
    have h0 : (⟨#[]⟩ : ByteArray).size = 0 := rfl
    have h1 : (⟨#[97]⟩ : ByteArray).size = 1 := rfl
    rw [scrc_f _ _ (by omega) (by omega), rcrc_f _ _ (by omega) (by omega), scrc_f _ _ (by omega) (by omega), rcrc_f _ _ (by omega) (by omega)]
    simp
  unfold cubbylaw01_SumOne.f
  by_cases hb1 : (s.size : Int) > 1024
  · rw [if_pos hb1]; exact j1
  rw [if_neg hb1]
  by_cases h0 : (s.size : Int) = 0
  · rw [show ((s.size : Int) == 0) = true by simp [h0]]; exact j1
  rw [show ((s.size : Int) == 0) = false by simpa using h0]
  obtain ⟨K, hK, e⟩ := one_spot x s.size (by omega) (by omega)
  show cubbylaw01_SumOne.j0 (8999 + 1) s x b false = some true
  simp only [cubbylaw01_SumOne.j0]
  rw [if_neg (by simp), if_neg h0]
  simp only [e]
  rw [wrap64_in _ (by omega) (by omega), if_pos (by omega), if_pos (by omega)]
  simp only [Option.bind_some]
  have e1 : ((K : Int)).toNat = K := by omega
  have e2 : ((K : Int) + 1).toNat = K + 1 := by omega
  have z1 : (s.extract 0 K).size = K := by rw [ByteArray.size_extract]; omega
  have z2 : (strOfNums [(b : Int)]).size = 1 := by rw [strOfNums_size]; rfl
  have z3 : (s.extract 0 K ++ strOfNums [(b : Int)]).size = K + 1 := by rw [ByteArray.size_append]; omega
  have z4 : (s.extract (K + 1) s.size).size = s.size - (K + 1) := by rw [ByteArray.size_extract]; omega
  have hz := setb_size s K (b : Int) hK
  rw [e1, e2, if_pos (by omega), if_pos (by omega), if_pos (by omega), if_pos (by omega)]
  have e3 : s.extract 0 K ++ strOfNums [(b : Int)] ++ s.extract (K + 1) s.size = setb s K b := rfl
  rw [e3, scrc_f s _ (by omega) (by omega), scrc_f (setb s K b) _ (by omega) (by omega), rcrc_f (setb s K b) _ (by omega) (by omega)]
  simp only [Option.bind_some]
  have hc := setb_crc s K b hK hb
  have e4 : ((((crcd s : Nat) : Int) == ((crcd (setb s K b) : Nat) : Int)) == (bt s (K : Int) == (b : Int))) = true := by
    rw [beq_iff_eq, Bool.eq_iff_iff, beq_iff_eq, beq_iff_eq, ← hc]
    omega
  rw [if_pos (by omega), if_pos e4]
  simp

end Go.Proofs.Ytcajpaflaeaakaa.Pure
