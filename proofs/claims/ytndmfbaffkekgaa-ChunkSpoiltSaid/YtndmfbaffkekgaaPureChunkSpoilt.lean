/- The pure law behind ChunkSpoilt: for every input that its bounds let in, the law's function answers true. Conditions: none. -/
import Derived.Test.YtndmfbaffkekgaaPChunkSpoiltx7
set_option linter.unusedVariables false
namespace Go.Proofs.Ytndmfbaffkekgaa.Pure
open Go.RowKit Go.Proofs.Ytndmfbaffkekgaa.PChunkSpoilt Go.Proofs.YtndmfbaffkekgaaW.PrintWords Go.Proofs.YtndmfbaffkekgaaW.PrintLast

theorem wrap64_in (n : Int) (h : -9223372036854775808 ≤ n) (h2 : n < 9223372036854775808) : wrap64 n = n := by unfold wrap64; omega
/-- With fuel enough it answers v. -/
def Ev {α : Type} (g : Nat → Option α) (v : α) : Prop := ∃ k0, ∀ k, k0 ≤ k → g k = some v
theorem Ev.succ {α : Type} {g : Nat → Option α} {v : α} (h : Ev (fun k => g (k + 1)) v) : Ev g v := by
  obtain ⟨k0, h⟩ := h
  refine ⟨k0 + 1, fun k hk => ?_⟩
  obtain ⟨k, rfl⟩ : ∃ m, k = m + 1 := ⟨k - 1, by omega⟩
  exact h k (by omega)
theorem Ev.bind {α β : Type} {g : Nat → Option α} {f : Nat → α → Option β} {a : α} {v : β} (h1 : Ev g a) (h2 : Ev (fun k => f k a) v) : Ev (fun k => (g k).bind (f k)) v := by
  obtain ⟨k1, h1⟩ := h1
  obtain ⟨k2, h2⟩ := h2
  refine ⟨k1 + k2, fun k hk => ?_⟩
  show (g k).bind (f k) = some v
  rw [h1 k (by omega)]
  exact h2 k (by omega)
theorem Ev.const {α : Type} (v : α) : Ev (fun _ => some v) v := ⟨0, fun _ _ => rfl⟩
theorem Ev.get {α : Type} {g : Nat → Option α} {v : α} (h : Ev g v) : ∃ k, g k = some v := by
  obtain ⟨k0, h⟩ := h
  exact ⟨k0, h k0 (Nat.le_refl _)⟩
theorem Ev.of {α : Type} {g g' : Nat → Option α} {v : α} (h : Ev g v) (e : ∀ k, g' k = g k) : Ev g' v := by
  obtain ⟨k0, h⟩ := h
  exact ⟨k0, fun k hk => (e k).trans (h k hk)⟩
theorem wnat (i : Nat) (h : i < 9223372036854775807) : wrap64 ((i : Int) + 1) = ((i + 1 : Nat) : Int) := by rw [wrap64_in _ (by omega) (by omega)]; omega

/-- One shift of the sum, over natural numbers. -/
def gg (x : Nat) : Nat := (x / 2) ^^^ (if x % 2 = 1 then 3988292384 else 0)
def git : Nat → Nat → Nat
  | 0, x => x
  | j + 1, x => git j (gg x)
theorem bits_u32 (a : Nat) (ha : a < 2 ^ 32) : (BitVec.ofInt IntKind.u32.bits (a : Int)).toNat = a := by
  rw [BitVec.ofInt_natCast, BitVec.toNat_ofNat]
  exact Nat.mod_eq_of_lt ha
theorem xor_u32 (a b : Nat) (ha : a < 2 ^ 32) (hb : b < 2 ^ 32) : Go.bits .xor .u32 (a : Int) (b : Int) = ((a ^^^ b : Nat) : Int) := by
  have hx : a ^^^ b < 2 ^ 32 := Nat.xor_lt_two_pow ha hb
  unfold Go.bits
  simp only [BitVec.toNat_xor, bits_u32 a ha, bits_u32 b hb]
  rw [IntKind.wrap_u32]
  omega
theorem and_u32 (a b : Nat) (ha : a < 2 ^ 32) (hb : b < 2 ^ 32) : Go.bits .and .u32 (a : Int) (b : Int) = ((a &&& b : Nat) : Int) := by
  have hx : a &&& b < 2 ^ 32 := Nat.and_lt_two_pow _ hb
  unfold Go.bits
  simp only [BitVec.toNat_and, bits_u32 a ha, bits_u32 b hb]
  rw [IntKind.wrap_u32]
  omega
theorem gg_lt (x : Nat) (h : x < 2 ^ 32) : gg x < 2 ^ 32 := by
  unfold gg
  refine Nat.xor_lt_two_pow (by omega) ?_
  split <;> omega
theorem git_lt (j : Nat) : ∀ x, x < 2 ^ 32 → git j x < 2 ^ 32 := by
  induction j with
  | zero => intro x h; exact h
  | succ j ih => intro x h; exact ih _ (gg_lt x h)
theorem xor_high (a : Nat) (h : a < 2 ^ 31) : 2 ^ 31 ≤ a ^^^ 3988292384 := by
  have h1 : (a ^^^ 3988292384).testBit 31 = true := by
    rw [Nat.testBit_xor, Nat.testBit_lt_two_pow h]; decide
  exact Nat.ge_two_pow_of_testBit h1
theorem gg_inj (x y : Nat) (hx : x < 2 ^ 32) (hy : y < 2 ^ 32) (h : gg x = gg y) : x = y := by
  have e1 : x / 2 < 2 ^ 31 := by omega
  have e2 : y / 2 < 2 ^ 31 := by omega
  have k1 := xor_high _ e1
  have k2 := xor_high _ e2
  have c : ∀ p q r : Nat, p ^^^ r = q ^^^ r → p = q := fun p q r hh => by
    have := congrArg (· ^^^ r) hh
    simpa [Nat.xor_assoc, Nat.xor_self, Nat.xor_zero] using this
  unfold gg at h
  by_cases p : x % 2 = 1 <;> by_cases q : y % 2 = 1
  · rw [if_pos p, if_pos q] at h; have := c _ _ _ h; omega
  · rw [if_pos p, if_neg q, Nat.xor_zero] at h; omega
  · rw [if_neg p, if_pos q, Nat.xor_zero] at h; omega
  · rw [if_neg p, if_neg q] at h; have := c _ _ _ h; omega
theorem git_inj (j : Nat) : ∀ x y, x < 2 ^ 32 → y < 2 ^ 32 → git j x = git j y → x = y := by
  induction j with
  | zero => intro x y _ _ h; exact h
  | succ j ih => intro x y hx hy h; exact gg_inj x y hx hy (ih _ _ (gg_lt x hx) (gg_lt y hy) h)
/-- A byte taken into a sum. -/
def stp (a b : Nat) : Nat := git 8 (a ^^^ b)
theorem stp_lt (a b : Nat) (ha : a < 2 ^ 32) (hb : b < 256) : stp a b < 2 ^ 32 := git_lt 8 _ (Nat.xor_lt_two_pow ha (by omega))
theorem xor_canc (p q r : Nat) (hh : p ^^^ r = q ^^^ r) : p = q := by
  have := congrArg (· ^^^ r) hh
  simpa [Nat.xor_assoc, Nat.xor_self, Nat.xor_zero] using this
theorem xor_cancl (r p q : Nat) (hh : r ^^^ p = r ^^^ q) : p = q := xor_canc p q r (by rw [Nat.xor_comm p, Nat.xor_comm q]; exact hh)
theorem stp_injl (a c b : Nat) (ha : a < 2 ^ 32) (hc : c < 2 ^ 32) (hb : b < 256) (h : stp a b = stp c b) : a = c :=
  xor_canc _ _ _ (git_inj 8 _ _ (Nat.xor_lt_two_pow ha (by omega)) (Nat.xor_lt_two_pow hc (by omega)) h)
theorem stp_injr (a b d : Nat) (ha : a < 2 ^ 32) (hb : b < 256) (hd : d < 256) (h : stp a b = stp a d) : b = d :=
  xor_cancl _ _ _ (git_inj 8 _ _ (Nat.xor_lt_two_pow ha (by omega)) (Nat.xor_lt_two_pow ha (by omega)) h)

theorem sstep_l0 (j : Nat) : ∀ (k x : Nat) (i : Int), j ≤ 8 → j < k → x < 2 ^ 32 → i = 8 - j → sum_Step.l0 k (x : Int) i = some ((git j x : Nat) : Int) := by
  induction j with
  | zero =>
    intro k x i _ hk _ hi
    obtain ⟨k, rfl⟩ : ∃ m, k = m + 1 := ⟨k - 1, by omega⟩
    simp only [sum_Step.l0]; rw [if_neg (by omega)]; rfl
  | succ j ih =>
    intro k x i hj hk hx hi
    obtain ⟨k, rfl⟩ : ∃ m, k = m + 1 := ⟨k - 1, by omega⟩
    simp only [sum_Step.l0]; rw [if_pos (by omega), wrap64_in _ (by omega) (by omega)]
    have e1 : Go.bits .and .u32 (x : Int) 1 = ((x % 2 : Nat) : Int) := by
      have := and_u32 x 1 hx (by omega)
      rw [Nat.and_one_is_mod] at this
      exact this
    have e2 : Go.bits .xor .u32 ((x : Int) / 2) (Go.bits .and .u32 ((-(Go.bits .and .u32 (x : Int) 1)) % 4294967296) 3988292384) = ((gg x : Nat) : Int) := by
      rw [e1]
      have e3 : Go.bits .and .u32 ((-((x % 2 : Nat) : Int)) % 4294967296) 3988292384 = (((if x % 2 = 1 then 3988292384 else 0 : Nat)) : Int) := by
        rcases Nat.mod_two_eq_zero_or_one x with h | h
        · rw [h]; decide
        · rw [h]; decide
      rw [e3]
      have e4 : ((x : Int) / 2) = ((x / 2 : Nat) : Int) := by omega
      rw [e4, xor_u32 _ _ (by omega) (by split <;> omega)]
      rfl
    rw [e2]
    exact ih k (gg x) (i + 1) (by omega) (by omega) (gg_lt x hx) (by omega)
theorem sstep_f (k a b : Nat) (hk : 8 < k) (ha : a < 2 ^ 32) (hb : b < 256) : sum_Step.f k (a : Int) (b : Int) = some ((stp a b : Nat) : Int) := by
  unfold sum_Step.f stp
  have e : ((b : Int) % 4294967296) = (b : Int) := by omega
  rw [e, xor_u32 a b ha (by omega)]
  exact sstep_l0 8 k _ 0 (by omega) hk (Nat.xor_lt_two_pow ha (by omega)) (by omega)
theorem rstep_l0 (j : Nat) : ∀ (k x : Nat) (i : Int), j ≤ 8 → j < k → x < 2 ^ 32 → i = 8 - j → cubbyref01_Step.l0 k (x : Int) i = some ((git j x : Nat) : Int) := by
  induction j with
  | zero =>
    intro k x i _ hk _ hi
    obtain ⟨k, rfl⟩ : ∃ m, k = m + 1 := ⟨k - 1, by omega⟩
    simp only [cubbyref01_Step.l0]; rw [if_neg (by omega)]; rfl
  | succ j ih =>
    intro k x i hj hk hx hi
    obtain ⟨k, rfl⟩ : ∃ m, k = m + 1 := ⟨k - 1, by omega⟩
    have e1 : (Int.tdiv (x : Int) 2) % 4294967296 = ((x / 2 : Nat) : Int) := by
      rw [Int.tdiv_eq_ediv_of_nonneg (by omega)]; omega
    have e0 : Int.tmod (x : Int) 2 = ((x % 2 : Nat) : Int) := by
      rw [Int.tmod_eq_emod_of_nonneg (by omega)]; omega
    simp only [cubbyref01_Step.l0]; rw [if_pos (by omega), wrap64_in _ (by omega) (by omega), e0, e1]
    by_cases h : x % 2 = 1
    · rw [if_pos (by omega)]
      have e2 : Go.bits .xor .u32 ((x / 2 : Nat) : Int) 3988292384 = ((gg x : Nat) : Int) := by
        have := xor_u32 (x / 2) 3988292384 (by omega) (by omega)
        unfold gg; rw [if_pos h]; exact this
      rw [e2]
      exact ih k (gg x) (i + 1) (by omega) (by omega) (gg_lt x hx) (by omega)
    · rw [if_neg (by omega)]
      have e2 : x / 2 = gg x := by unfold gg; rw [if_neg h, Nat.xor_zero]
      rw [e2]
      exact ih k (gg x) (i + 1) (by omega) (by omega) (gg_lt x hx) (by omega)
theorem rstep_f (k a b : Nat) (hk : 8 < k) (ha : a < 2 ^ 32) (hb : b < 256) : cubbyref01_Step.f k (a : Int) (b : Int) = some ((stp a b : Nat) : Int) := by
  unfold cubbyref01_Step.f stp
  have e : ((b : Int) % 4294967296) = (b : Int) := by omega
  rw [e, xor_u32 a b ha (by omega)]
  exact rstep_l0 8 k _ 0 (by omega) hk (Nat.xor_lt_two_pow ha (by omega)) (by omega)
theorem wf_u32 (a : Int) (h : (Lit.int .u32 a).wf = true) : ∃ n : Nat, a = (n : Int) ∧ n < 2 ^ 32 := by
  simp [Lit.wf, IntKind.min, IntKind.max, IntKind.signed, IntKind.bits] at h
  exact ⟨a.toNat, by omega, by omega⟩
theorem wf_u8 (a : Int) (h : (Lit.int .u8 a).wf = true) : ∃ n : Nat, a = (n : Int) ∧ n < 256 := by
  simp [Lit.wf, IntKind.min, IntKind.max, IntKind.signed, IntKind.bits] at h
  exact ⟨a.toNat, by omega, by omega⟩

/-- d bytes of s from place i on, taken into the sum c. -/
def cgo (s : ByteArray) : Nat → Int → Nat → Nat
  | 0, _, c => c
  | d + 1, i, c => cgo s d (i + 1) (stp c (bt s i).toNat)
theorem bt_nat (s : ByteArray) (i : Int) : ∃ n : Nat, bt s i = (n : Int) ∧ n < 256 := by
  have := bt_range s i
  exact ⟨(bt s i).toNat, by omega, by omega⟩
theorem bt_lt (s : ByteArray) (i : Int) : (bt s i).toNat < 256 := by have := bt_range s i; omega
theorem bt_cast (s : ByteArray) (i : Int) : (((bt s i).toNat : Nat) : Int) = bt s i := by have := bt_range s i; omega
theorem cgo_lt (s : ByteArray) (d : Nat) : ∀ (i : Int) (c : Nat), c < 2 ^ 32 → cgo s d i c < 2 ^ 32 := by
  induction d with
  | zero => intro i c h; exact h
  | succ d ih => intro i c h; exact ih _ _ (stp_lt _ _ h (bt_lt s i))
theorem scrc_l0 (s : ByteArray) (hs : s.size ≤ 9223372036854775807) (d : Nat) : ∀ (k : Nat) (i : Int) (c : Nat), 0 ≤ i → i + d = s.size → d + 9 < k → c < 2 ^ 32 → sum_Crc.l0 k s (c : Int) (s.size : Int) i = some ((4294967295 ^^^ cgo s d i c : Nat) : Int) := by
  induction d with
  | zero =>
    intro k i c h0 h1 hk hc
    obtain ⟨k, rfl⟩ : ∃ m, k = m + 1 := ⟨k - 1, by omega⟩
    simp only [sum_Crc.l0]; rw [if_neg (by omega)]
    exact congrArg some (xor_u32 4294967295 c (by omega) hc)
  | succ d ih =>
    intro k i c h0 h1 hk hc
    obtain ⟨k, rfl⟩ : ∃ m, k = m + 1 := ⟨k - 1, by omega⟩
    simp only [sum_Crc.l0]; rw [if_pos (by omega), if_pos h0, if_pos (by omega), wrap64_in _ (by omega) (by omega), ← bt_cast, sstep_f k c _ (by omega) hc (bt_lt s i)]
    simp only [Option.bind_some]
    exact ih k (i + 1) _ (by omega) (by omega) (by omega) (stp_lt _ _ hc (bt_lt s i))
theorem rcrc_l0 (s : ByteArray) (hs : s.size ≤ 9223372036854775807) (d : Nat) : ∀ (k : Nat) (i : Int) (c : Nat), 0 ≤ i → i + d = s.size → d + 9 < k → c < 2 ^ 32 → cubbyref01_Crc.l0 k s (c : Int) i = some ((4294967295 ^^^ cgo s d i c : Nat) : Int) := by
  induction d with
  | zero =>
    intro k i c h0 h1 hk hc
    obtain ⟨k, rfl⟩ : ∃ m, k = m + 1 := ⟨k - 1, by omega⟩
    simp only [cubbyref01_Crc.l0]; rw [if_neg (by omega), Nat.xor_comm]
    exact congrArg some (xor_u32 c 4294967295 hc (by omega))
  | succ d ih =>
    intro k i c h0 h1 hk hc
    obtain ⟨k, rfl⟩ : ∃ m, k = m + 1 := ⟨k - 1, by omega⟩
    simp only [cubbyref01_Crc.l0]; rw [if_pos (by omega), if_pos h0, wrap64_in _ (by omega) (by omega), ← bt_cast, rstep_f k c _ (by omega) hc (bt_lt s i)]
    simp only [Option.bind_some]
    exact ih k (i + 1) _ (by omega) (by omega) (by omega) (stp_lt _ _ hc (bt_lt s i))
/-- The check sum. -/
def crcd (s : ByteArray) : Nat := 4294967295 ^^^ cgo s s.size 0 4294967295
theorem crcd_lt (s : ByteArray) : crcd s < 2 ^ 32 := Nat.xor_lt_two_pow (by omega) (cgo_lt s _ _ _ (by omega))
theorem scrc_f (s : ByteArray) (k : Nat) (hs : s.size ≤ 9223372036854775807) (hk : s.size + 9 < k) : sum_Crc.f k s = some ((crcd s : Nat) : Int) :=
  scrc_l0 s hs s.size k 0 4294967295 (by omega) (by omega) hk (by omega)
theorem rcrc_f (s : ByteArray) (k : Nat) (hs : s.size ≤ 9223372036854775807) (hk : s.size + 9 < k) : cubbyref01_Crc.f k s = some ((crcd s : Nat) : Int) :=
  rcrc_l0 s hs s.size k 0 4294967295 (by omega) (by omega) hk (by omega)
theorem cgo_add (s : ByteArray) (m d : Nat) : ∀ (i : Int) (c : Nat), cgo s (d + m) i c = cgo s m (i + d) (cgo s d i c) := by
  induction d with
  | zero => intro i c; rw [Nat.zero_add]; simp [cgo]
  | succ d ih =>
    intro i c
    rw [show d + 1 + m = (d + m) + 1 by omega]
    simp only [cgo]
    rw [ih]
    congr 1
    omega
theorem cgo_congr (s t : ByteArray) (e : Int) (d : Nat) : ∀ (i : Int) (c : Nat), (∀ j : Nat, j < d → bt s (i + j) = bt t (i + e + j)) → cgo s d i c = cgo t d (i + e) c := by
  induction d with
  | zero => intro i c _; rfl
  | succ d ih =>
    intro i c h
    simp only [cgo]
    have h0 : bt s i = bt t (i + e) := by simpa using h 0 (by omega)
    rw [h0, ih (i + 1) _ (fun j hj => by have := h (j + 1) (by omega); rw [show i + 1 + (j : Int) = i + ((j + 1 : Nat) : Int) by omega, this]; congr 1; omega)]
    congr 1
    omega
theorem cgo_inj (s : ByteArray) (d : Nat) : ∀ (i : Int) (a c : Nat), a < 2 ^ 32 → c < 2 ^ 32 → cgo s d i a = cgo s d i c → a = c := by
  induction d with
  | zero => intro i a c _ _ h; exact h
  | succ d ih => intro i a c ha hc h; exact stp_injl _ _ _ ha hc (bt_lt s i) (ih _ _ _ (stp_lt _ _ ha (bt_lt s i)) (stp_lt _ _ hc (bt_lt s i)) h)

open Hw in
theorem mx_clamp (n : Int) : mx 0 (mn n 72057594037927935) = ((clamp n : Nat) : Int) := by
  unfold mx mn clamp
  split <;> split <;> (try split) <;> omega
/-- Bytes, as the reference holds them. -/
def nums8 (l : List UInt8) : List Int := l.map fun x => (x.toNat : Int)
theorem str_nums (l : List UInt8) : strOfNums (nums8 l) = ⟨l.toArray⟩ := by
  unfold strOfNums nums8
  rw [List.map_map]
  congr 2
  have : ∀ x : UInt8, ((fun n : Int => UInt8.ofNat n.toNat) ∘ fun x : UInt8 => (x.toNat : Int)) x = x := by intro x; simp
  rw [show ((fun n : Int => UInt8.ofNat n.toNat) ∘ fun x : UInt8 => (x.toNat : Int)) = id from funext this, List.map_id]
open Hw in
theorem rcode_l0 (b : Nat) : ∀ (m : Nat) (acc : List UInt8), m < b → m < 72057594037927936 → acc.length + (code m).length ≤ 1000 → Ev (fun k => cubbyref02_Code.l0 k (m : Int) (nums8 acc)) ⟨(acc ++ code m).toArray⟩ := by
  induction b with
  | zero => intro m acc h; omega
  | succ b ih =>
    intro m acc hm hm2 hl
    have hlen : (nums8 acc).length = acc.length := by simp [nums8]
    refine Ev.succ ?_
    simp only [cubbyref02_Code.l0]
    by_cases h : m < 128
    · rw [code_lo m h]
      refine (Ev.const _).of fun k => ?_
      have e : (m : Int) % 256 = ((UInt8.ofNat m).toNat : Int) := by rw [UInt8.toNat_ofNat']; omega
      rw [if_neg (by omega), if_pos (by omega), e, ← str_nums]
      congr 2
      simp [nums8]
    · rw [code_hi m h] at hl ⊢
      rw [List.length_cons] at hl
      have h2 := ih (m / 128) (acc ++ [UInt8.ofNat (m % 128 + 128)]) (by omega) (by omega) (by rw [List.length_append, List.length_singleton]; omega)
      rw [List.append_assoc, List.singleton_append] at h2
      refine h2.of fun k => ?_
      have e1 : Int.tdiv (m : Int) 128 = ((m / 128 : Nat) : Int) := rfl
      have e2 : Int.tmod (m : Int) 128 = ((m % 128 : Nat) : Int) := rfl
      have e3 : (wrap64 (((m % 128 : Nat) : Int) + 128)) % 256 = ((UInt8.ofNat (m % 128 + 128)).toNat : Int) := by rw [wrap64_in _ (by omega) (by omega), UInt8.toNat_ofNat']; omega
      rw [if_pos (by omega), if_pos (by omega), e1, e2, e3, wrap64_in _ (by omega) (by omega)]
      congr 1
      simp [nums8]
open Hw in
theorem rcode_ev (n : Int) : Ev (fun k => cubbyref02_Code.f k n) ⟨(code (clamp n)).toArray⟩ := by
  have hc := clamp_lt n
  refine (rcode_l0 (clamp n + 1) (clamp n) [] (by omega) hc (by have := code_len 7 (clamp n) hc; simp; omega)).of fun k => ?_
  unfold cubbyref02_Code.f
  rw [mx_clamp]
  rfl

/-- A sum's four bytes, the least first. -/
def le4 (c : Nat) : List UInt8 := [UInt8.ofNat (c % 256), UInt8.ofNat (c / 256 % 256), UInt8.ofNat (c / 65536 % 256), UInt8.ofNat (c / 16777216 % 256)]
theorem le4_len (c : Nat) : (le4 c).length = 4 := rfl
theorem u8_nat (n : Nat) (h : n < 256) : (UInt8.ofNat n).toNat = n := by rw [UInt8.toNat_ofNat']; omega
theorem nums_le4 (c : Nat) : nums8 (le4 c) = [((c % 256 : Nat) : Int), ((c / 256 % 256 : Nat) : Int), ((c / 65536 % 256 : Nat) : Int), ((c / 16777216 % 256 : Nat) : Int)] := by
  unfold nums8 le4
  simp only [List.map_cons, List.map_nil]
  rw [u8_nat _ (by omega), u8_nat _ (by omega), u8_nat _ (by omega), u8_nat _ (by omega)]
/-- A text's check sum as bytes. -/
def tl (s : ByteArray) : List UInt8 := le4 (crcd s)
theorem ptail_ev (s : ByteArray) (hs : s.size ≤ 140737488355328) : Ev (fun k => chunk_tail.f k s) ⟨(tl s).toArray⟩ := by
  refine ⟨s.size + 10, fun k hk => ?_⟩
  show (sum_Crc.f k s).bind _ = _
  rw [scrc_f s k (by omega) (by omega)]
  show some _ = _
  have h := crcd_lt s
  unfold tl
  generalize crcd s = c at *
  rw [← str_nums, nums_le4]
  have e1 : ((c : Int)) % 256 = ((c % 256 : Nat) : Int) := by omega
  have e2 : ((c : Int) / 256) % 256 = ((c / 256 % 256 : Nat) : Int) := by omega
  have e3 : ((c : Int) / 65536) % 256 = ((c / 65536 % 256 : Nat) : Int) := by omega
  have e4 : ((c : Int) / 16777216) % 256 = ((c / 16777216 % 256 : Nat) : Int) := by omega
  rw [e1, e2, e3, e4]
theorem bs_app (a b : List UInt8) : (⟨a.toArray⟩ : ByteArray) ++ (⟨b.toArray⟩ : ByteArray) = ⟨(a ++ b).toArray⟩ := by
  apply ByteArray.ext
  rw [ByteArray.data_append]
  simp
theorem bs_size (a : List UInt8) : (⟨a.toArray⟩ : ByteArray).size = a.length := List.size_toArray
theorem of_list (s : ByteArray) : (⟨s.data.toList.toArray⟩ : ByteArray) = s := by
  apply ByteArray.ext
  simp
theorem bndd {α β : Type} (a : α) (f : α → Option β) : (some a).bind f = f a := rfl
theorem texted_Ev (s : ByteArray) (hs : s.size ≤ 1000000) : Ev (fun k => cubbyref02_Texted.f k s) ⟨(Hw.code s.size ++ s.data.toList).toArray⟩ := by
  have h := rcode_ev (s.size : Int)
  rw [Hw.clamp_nat s.size (by omega)] at h
  have hl := Hw.code_len 7 s.size (by omega)
  refine (Ev.bind (f := fun _ t => if t.size + s.size ≤ 9223372036854775807 then some (t ++ s) else none) h ?_).of fun k => rfl
  refine (Ev.const _).of fun k => ?_
  show (if _ then _ else _) = _
  have e2 : (⟨(Hw.code s.size).toArray⟩ : ByteArray) ++ s = ⟨(Hw.code s.size ++ s.data.toList).toArray⟩ := by rw [← bs_app, of_list]
  rw [if_pos (by rw [bs_size]; omega), e2]
/-- The bytes of what is a chunk; else nothing, with the error's number. -/
def encd (e q : Int) (a b : Bool) (d : ByteArray) : List UInt8 × Int :=
  if e < 0 ∨ e > 1099511627776 ∨ q < 0 ∨ q > 1099511627776 then ([], 1) else if (d.size : Int) > 96 then ([], 31) else (chunk_Encode.body e q a b d ++ tl ⟨(chunk_Encode.body e q a b d).toArray⟩, 0)
theorem body_len (e q : Int) (a b : Bool) (d : ByteArray) (hd : d.size ≤ 96) : (chunk_Encode.body e q a b d).length ≤ 200 := by
  have h1 := Hw.code_len 7 _ (Hw.clamp_lt e)
  have h2 := Hw.code_len 7 _ (Hw.clamp_lt q)
  have h3 := Hw.code_len 7 d.size (by omega)
  have h4 := data_length d
  unfold chunk_Encode.body
  simp only [List.length_append, chunk_Encode.flags_len]
  omega
theorem l0_step (k : Nat) (s : ByteArray) (c i : Nat) (acc : List UInt8) (hc : c < 4294967296) (hi : i < 4) (ha : acc.length ≤ 10) : cubbyref04_Encode.l0 (k + 1) s (c : Int) (nums8 acc) (i : Int) = cubbyref04_Encode.l0 k s ((c / 256 : Nat) : Int) (nums8 (acc ++ [UInt8.ofNat (c % 256)])) ((i + 1 : Nat) : Int) := by
  simp only [cubbyref04_Encode.l0]
  have hl : (nums8 acc).length = acc.length := by simp [nums8]
  have e1 : Int.tdiv (c : Int) 256 % 4294967296 = ((c / 256 : Nat) : Int) := by
    have : Int.tdiv (c : Int) 256 = ((c / 256 : Nat) : Int) := rfl
    rw [this]; omega
  have e2 : Int.tmod (c : Int) 256 % 256 = ((c % 256 : Nat) : Int) := by
    have : Int.tmod (c : Int) 256 = ((c % 256 : Nat) : Int) := rfl
    rw [this]; omega
  have e3 : nums8 (acc ++ [UInt8.ofNat (c % 256)]) = nums8 acc ++ [((c % 256 : Nat) : Int)] := by
    unfold nums8
    rw [List.map_append, List.map_cons, List.map_nil, u8_nat _ (by omega)]
  rw [if_pos (by omega), if_pos (by omega), e1, e2, e3, wnat i (by omega)]
theorem l0_ev (s : ByteArray) (hs : s.size ≤ 1000) (c : Nat) (hc : c < 4294967296) : Ev (fun k => cubbyref04_Encode.l0 k s (c : Int) ([] : List Int) 0) (s ++ ⟨(le4 c).toArray⟩, 0) := by
  refine Ev.succ ((Ev.succ (Ev.succ (Ev.succ (Ev.succ ?_)))).of fun k => l0_step k s c 0 [] hc (by omega) (by simp))
  have d1 : c / 256 / 256 = c / 65536 := by omega
  have d2 : c / 65536 / 256 = c / 16777216 := by omega
  refine (Ev.const _).of fun k => ?_
  rw [l0_step _ s (c / 256) 1 _ (by omega) (by omega) (by simp), l0_step _ s (c / 256 / 256) 2 _ (by omega) (by omega) (by simp), l0_step _ s (c / 256 / 256 / 256) 3 _ (by omega) (by omega) (by simp), d1, d2]
  simp only [cubbyref04_Encode.l0]
  have e : ([] : List UInt8) ++ [UInt8.ofNat (c % 256)] ++ [UInt8.ofNat (c / 256 % 256)] ++ [UInt8.ofNat (c / 65536 % 256)] ++ [UInt8.ofNat (c / 16777216 % 256)] = le4 c := rfl
  rw [if_neg (by omega), e, str_nums, if_pos (by rw [bs_size (le4 c), le4_len]; omega)]
theorem renc_ev (e q : Int) (a b : Bool) (d : ByteArray) : Ev (fun k => cubbyref04_Encode.f k e q a b d) (⟨(encd e q a b d).1.toArray⟩, (encd e q a b d).2) := by
  have bad : Ev (fun k => cubbyref04_Encode.j0 k true e q a b d) ((⟨#[]⟩ : ByteArray), 1) := Ev.succ ((Ev.const _).of fun k => by simp only [cubbyref04_Encode.j0]; rw [if_pos trivial])
  unfold encd
  by_cases h1 : e < 0 ∨ e > 1099511627776 ∨ q < 0 ∨ q > 1099511627776
  · rw [if_pos h1]
    refine bad.of fun k => ?_
    unfold cubbyref04_Encode.f
    by_cases c1 : e < 0
    · rw [if_pos c1]
    · rw [if_neg c1]
      by_cases c2 : e > 1099511627776
      · rw [if_pos c2]
      · rw [if_neg c2]
        by_cases c3 : q < 0
        · rw [if_pos c3]
        · rw [if_neg c3, decide_eq_true (by omega)]
  · rw [if_neg h1]
    have hf : ∀ k, cubbyref04_Encode.f k e q a b d = cubbyref04_Encode.j0 k false e q a b d := by
      intro k
      unfold cubbyref04_Encode.f
      rw [if_neg (by omega), if_neg (by omega), if_neg (by omega), decide_eq_false (by omega)]
    refine Ev.of ?_ hf
    refine Ev.succ ?_
    simp only [cubbyref04_Encode.j0]
    by_cases h2 : (d.size : Int) > 96
    · rw [if_pos h2]
      exact (Ev.const _).of fun k => by rw [if_neg (by decide), if_pos h2]
    · rw [if_neg h2]
      have hbl := body_len e q a b d (by omega)
      have hE := rcode_ev e
      have hQ := rcode_ev q
      have hT := texted_Ev d (by omega)
      have lE := Hw.code_len 7 _ (Hw.clamp_lt e)
      have lQ := Hw.code_len 7 _ (Hw.clamp_lt q)
      have lD := Hw.code_len 7 d.size (by omega)
      have lL := data_length d
      have j2 : ∀ n : Nat, n < 4 → Ev (fun k => cubbyref04_Encode.j2 k (n : Int) e q a b d) (⟨((Hw.code (Hw.clamp e) ++ Hw.code (Hw.clamp q) ++ Hw.code n ++ (Hw.code d.size ++ d.data.toList)) ++ tl ⟨(Hw.code (Hw.clamp e) ++ Hw.code (Hw.clamp q) ++ Hw.code n ++ (Hw.code d.size ++ d.data.toList)).toArray⟩).toArray⟩, 0) := by
        intro n hn
        have hN := rcode_ev (n : Int)
        rw [Hw.clamp_nat n (by omega)] at hN
        have lN := Hw.code_len 7 n (by omega)
        refine Ev.succ ?_
        simp only [cubbyref04_Encode.j2]
        refine Ev.bind hE (Ev.bind hQ ?_)
        have c1 : (⟨(Hw.code (Hw.clamp e)).toArray⟩ : ByteArray).size + (⟨(Hw.code (Hw.clamp q)).toArray⟩ : ByteArray).size ≤ 9223372036854775807 := by rw [bs_size, bs_size]; omega
        simp only [if_pos c1, bs_app]
        refine Ev.bind hN ?_
        have c2 : (⟨(Hw.code (Hw.clamp e) ++ Hw.code (Hw.clamp q)).toArray⟩ : ByteArray).size + (⟨(Hw.code n).toArray⟩ : ByteArray).size ≤ 9223372036854775807 := by rw [bs_size, bs_size, List.length_append]; omega
        simp only [if_pos c2, bs_app]
        refine Ev.bind hT ?_
        have c3 : (⟨(Hw.code (Hw.clamp e) ++ Hw.code (Hw.clamp q) ++ Hw.code n).toArray⟩ : ByteArray).size + (⟨(Hw.code d.size ++ d.data.toList).toArray⟩ : ByteArray).size ≤ 9223372036854775807 := by rw [bs_size, bs_size, List.length_append, List.length_append, List.length_append]; omega
        simp only [if_pos c3, bs_app]
        generalize hB : Hw.code (Hw.clamp e) ++ Hw.code (Hw.clamp q) ++ Hw.code n ++ (Hw.code d.size ++ d.data.toList) = B
        have hBl : B.length ≤ 200 := by rw [← hB]; simp only [List.length_append]; omega
        have hz := bs_size B
        refine Ev.bind ⟨(⟨B.toArray⟩ : ByteArray).size + 10, fun k hk => rcrc_f ⟨B.toArray⟩ k (by omega) (by omega)⟩ ?_
        rw [← bs_app]
        exact l0_ev ⟨B.toArray⟩ (by omega) _ (crcd_lt _)
      unfold chunk_Encode.body chunk_Encode.flags
      have w2 : wrap64 ((1 : Int) + 2) = 3 := wrap64_in _ (by omega) (by omega)
      have w1 : wrap64 ((0 : Int) + 2) = 2 := wrap64_in _ (by omega) (by omega)
      cases a <;> cases b
      · refine (Ev.succ ((j2 0 (by omega)).of fun k => ?_) : Ev (fun k => cubbyref04_Encode.j1 k 0 e q false false d) _).of fun k => ?_
        · simp only [cubbyref04_Encode.j1]; rfl
        · rw [if_neg (by decide), if_neg h2, if_neg (by decide)]
      · refine (Ev.succ ((j2 2 (by omega)).of fun k => ?_) : Ev (fun k => cubbyref04_Encode.j1 k 0 e q false true d) _).of fun k => ?_
        · simp only [cubbyref04_Encode.j1]; rw [if_pos trivial, w1]; rfl
        · rw [if_neg (by decide), if_neg h2, if_neg (by decide)]
      · refine (Ev.succ ((j2 1 (by omega)).of fun k => ?_) : Ev (fun k => cubbyref04_Encode.j1 k 1 e q true false d) _).of fun k => ?_
        · simp only [cubbyref04_Encode.j1]; rfl
        · rw [if_neg (by decide), if_neg h2, if_pos rfl]
      · refine (Ev.succ ((j2 3 (by omega)).of fun k => ?_) : Ev (fun k => cubbyref04_Encode.j1 k 1 e q true true d) _).of fun k => ?_
        · simp only [cubbyref04_Encode.j1]; rw [if_pos trivial, w2]; rfl
        · rw [if_neg (by decide), if_neg h2, if_pos rfl]

theorem penc_ev (e q : Int) (a b : Bool) (d : ByteArray) : Ev (fun k => chunk_Encode.f k e q a b d) (⟨(encd e q a b d).1.toArray⟩, (encd e q a b d).2) := by
  unfold encd chunk_Encode.f
  by_cases h1 : e < 0 ∨ e > 1099511627776 ∨ q < 0 ∨ q > 1099511627776
  · rw [if_pos h1]; exact (Ev.const _).of fun k => by rw [if_pos h1]
  · rw [if_neg h1]
    by_cases h2 : (d.size : Int) > 96
    · rw [if_pos h2]; exact (Ev.const _).of fun k => by rw [if_neg h1, if_pos h2]
    · rw [if_neg h2]
      have hl := body_len e q a b d (by omega)
      have ht := ptail_ev ⟨(chunk_Encode.body e q a b d).toArray⟩ (by rw [bs_size]; omega)
      have hb := Ev.bind (f := fun _ t => if t.size ≤ 100 then some ((⟨(chunk_Encode.body e q a b d).toArray⟩ : ByteArray) ++ t, (0 : Int)) else none) ht ((Ev.const _).of fun k => by rw [if_pos (by rw [bs_size, tl, le4_len]; omega), bs_app])
      exact hb.of fun k => by rw [if_neg h1, if_neg h2]

/-! What a reader takes as a number is that number's bytes, and no others. -/
theorem rnum_canon (l : List UInt8) : ∀ (j acc : Nat), (Hw.rnum l j acc).2.1 = 0 → ∃ m, Hw.rnum l j acc = (acc + m * 128 ^ j, 0, j + (Hw.code m).length) ∧ l = Hw.code m ++ l.drop (Hw.code m).length ∧ (j = 0 ∨ 0 < m) := by
  induction l with
  | nil =>
    intro j acc h
    have h1 : (Hw.rnum [] j acc).2.1 = 20 := rfl
    omega
  | cons c r ih =>
    intro j acc h
    have hc := c.toNat_lt
    rw [Hw.rnum] at h ⊢
    by_cases h8 : 8 ≤ j
    · rw [if_pos h8] at h; exact absurd h (by decide)
    · rw [if_neg h8] at h ⊢
      by_cases h1 : 127 < c.toNat
      · rw [if_pos h1] at h ⊢
        obtain ⟨m, e1, e2, e3⟩ := ih (j + 1) _ h
        have hm : 0 < m := by omega
        have hd : (c.toNat % 128 + 128 * m) / 128 = m := by omega
        have hmod : (c.toNat % 128 + 128 * m) % 128 = c.toNat % 128 := by omega
        have hcode : Hw.code (c.toNat % 128 + 128 * m) = c :: Hw.code m := by
          rw [Hw.code_hi _ (by omega), hd, hmod, show c.toNat % 128 + 128 = c.toNat by omega, UInt8.ofNat_toNat]
        refine ⟨c.toNat % 128 + 128 * m, ?_, ?_, .inr (by omega)⟩
        · rw [e1, hcode, List.length_cons]
          refine Prod.ext ?_ (Prod.ext rfl ?_)
          · show acc + c.toNat % 128 * 128 ^ j + m * 128 ^ (j + 1) = acc + (c.toNat % 128 + 128 * m) * 128 ^ j
            rw [Nat.add_mul, Nat.pow_succ, Nat.mul_comm (128 ^ j) 128, ← Nat.mul_assoc, Nat.mul_comm m 128]
            omega
          · show j + 1 + _ = j + (_ + 1); omega
        · rw [hcode, List.length_cons, List.drop_succ_cons, List.cons_append, ← e2]
      · rw [if_neg h1] at h ⊢
        by_cases h0 : c.toNat = 0 ∧ 0 < j
        · rw [if_pos h0] at h; exact absurd h (by decide)
        · rw [if_neg h0]
          have hcode : Hw.code c.toNat = [c] := by rw [Hw.code_lo _ (by omega), UInt8.ofNat_toNat]
          refine ⟨c.toNat, ?_, ?_, by omega⟩
          · rw [hcode, Nat.mod_eq_of_lt (by omega)]; rfl
          · rw [hcode]; rfl
theorem rnum_canon0 (l : List UInt8) (h : (Hw.rnum l 0 0).2.1 = 0) : Hw.rnum l 0 0 = ((Hw.rnum l 0 0).1, 0, (Hw.code (Hw.rnum l 0 0).1).length) ∧ l = Hw.code (Hw.rnum l 0 0).1 ++ l.drop (Hw.rnum l 0 0).2.2 := by
  obtain ⟨m, e1, e2, _⟩ := rnum_canon l 0 0 h
  rw [e1]
  simp only [Nat.pow_zero, Nat.mul_one, Nat.zero_add]
  exact ⟨trivial, e2⟩
theorem rtext_canon (l : List UInt8) (h : (Hw.rtext l).2.1 = 0) : (Hw.rtext l).2.2 = (Hw.code (Hw.rtext l).1.length).length + (Hw.rtext l).1.length ∧ l = (Hw.code (Hw.rtext l).1.length ++ (Hw.rtext l).1) ++ l.drop (Hw.rtext l).2.2 := by
  unfold Hw.rtext at h ⊢
  by_cases h1 : (Hw.rnum l 0 0).2.1 = 0
  · rw [if_pos h1] at h ⊢
    by_cases h2 : l.length < (Hw.rnum l 0 0).2.2 + (Hw.rnum l 0 0).1
    · rw [if_pos h2] at h; exact absurd h (by decide)
    · rw [if_neg h2]
      obtain ⟨e1, e2⟩ := rnum_canon0 l h1
      have e3 : (Hw.rnum l 0 0).2.2 = (Hw.code (Hw.rnum l 0 0).1).length := by
        have := congrArg (fun t => t.2.2) e1; exact this
      have hlen : ((l.drop (Hw.rnum l 0 0).2.2).take (Hw.rnum l 0 0).1).length = (Hw.rnum l 0 0).1 := by rw [List.length_take, List.length_drop]; omega
      simp only [hlen]
      refine ⟨by rw [e3], ?_⟩
      conv => lhs; rw [e2]
      rw [List.append_assoc, ← List.drop_drop, List.take_append_drop]
  · rw [if_neg h1] at h; exact absurd h h1
open chunk_Decode in
theorem body_read (e q : Nat) (a b : Bool) (d : ByteArray) (x : List UInt8) (he : e ≤ 1099511627776) (hq : q ≤ 1099511627776) (hd : d.size ≤ 96) :
    err (chunk_Encode.body e q a b d ++ x) 0 = 0 ∧ err (chunk_Encode.body e q a b d ++ x) 1 = 0 ∧ err (chunk_Encode.body e q a b d ++ x) 2 = 0 ∧ val (chunk_Encode.body e q a b d ++ x) 0 = (e : Int) ∧ val (chunk_Encode.body e q a b d ++ x) 1 = (q : Int) ∧ val (chunk_Encode.body e q a b d ++ x) 2 = ((chunk_Encode.flags a b : Nat) : Int) ∧
    (txt (chunk_Encode.body e q a b d ++ x)).1 = d.data.toList ∧ (txt (chunk_Encode.body e q a b d ++ x)).2.1 = 0 ∧ pos (chunk_Encode.body e q a b d ++ x) 3 + (txt (chunk_Encode.body e q a b d ++ x)).2.2 = (chunk_Encode.body e q a b d).length := by
  have hf := chunk_Encode.flags_lt a b
  have hl := data_length d
  have hb : chunk_Encode.body e q a b d ++ x = Hw.code e ++ (Hw.code q ++ (Hw.code (chunk_Encode.flags a b) ++ ((Hw.code d.data.toList.length ++ d.data.toList) ++ x))) := by
    unfold chunk_Encode.body
    rw [Hw.clamp_nat e (by omega), Hw.clamp_nat q (by omega), hl]
    simp only [List.append_assoc]
  have hbl : (chunk_Encode.body e q a b d).length = (Hw.code e).length + (Hw.code q).length + (Hw.code (chunk_Encode.flags a b)).length + (Hw.code d.data.toList.length ++ d.data.toList).length := by
    unfold chunk_Encode.body
    rw [Hw.clamp_nat e (by omega), Hw.clamp_nat q (by omega), hl]
    simp only [List.length_append]
  rw [hbl, hb]
  generalize chunk_Encode.flags a b = f at *
  have rc : ∀ (m : Nat) (r : List UInt8), m < 72057594037927936 → Hw.rnum (Hw.code m ++ r) 0 0 = (m, 0, (Hw.code m).length) := by
    intro m r hm
    rw [Hw.rnum_code 7 m 0 0 r hm (by omega) (.inl rfl)]
    simp
  generalize hT : (Hw.code d.data.toList.length ++ d.data.toList) ++ x = T
  have p0 : pos (Hw.code e ++ (Hw.code q ++ (Hw.code f ++ T))) 0 = 0 := rfl
  have r0 : Hw.rnum ((Hw.code e ++ (Hw.code q ++ (Hw.code f ++ T))).drop (pos (Hw.code e ++ (Hw.code q ++ (Hw.code f ++ T))) 0)) 0 0 = (e, 0, (Hw.code e).length) := by rw [p0, List.drop_zero, rc e _ (by omega)]
  have p1 : pos (Hw.code e ++ (Hw.code q ++ (Hw.code f ++ T))) 1 = (Hw.code e).length := by
    show pos _ 0 + (Hw.rnum _ 0 0).2.2 = _
    rw [r0, p0]; simp
  have r1 : Hw.rnum ((Hw.code e ++ (Hw.code q ++ (Hw.code f ++ T))).drop (pos (Hw.code e ++ (Hw.code q ++ (Hw.code f ++ T))) 1)) 0 0 = (q, 0, (Hw.code q).length) := by rw [p1, List.drop_left, rc q _ (by omega)]
  have p2 : pos (Hw.code e ++ (Hw.code q ++ (Hw.code f ++ T))) 2 = (Hw.code e).length + (Hw.code q).length := by
    show pos _ 1 + (Hw.rnum _ 0 0).2.2 = _
    rw [r1, p1]
  have r2 : Hw.rnum ((Hw.code e ++ (Hw.code q ++ (Hw.code f ++ T))).drop (pos (Hw.code e ++ (Hw.code q ++ (Hw.code f ++ T))) 2)) 0 0 = (f, 0, (Hw.code f).length) := by rw [p2, ← List.drop_drop, List.drop_left, List.drop_left, rc f _ (by omega)]
  have p3 : pos (Hw.code e ++ (Hw.code q ++ (Hw.code f ++ T))) 3 = (Hw.code e).length + (Hw.code q).length + (Hw.code f).length := by
    show pos _ 2 + (Hw.rnum _ 0 0).2.2 = _
    rw [r2, p2]
  have r3 : txt (Hw.code e ++ (Hw.code q ++ (Hw.code f ++ T))) = (d.data.toList, 0, (Hw.code d.data.toList.length ++ d.data.toList).length) := by
    unfold txt
    rw [p3, ← List.drop_drop, ← List.drop_drop, List.drop_left, List.drop_left, List.drop_left, ← hT, Hw.rtext_code _ _ (by omega)]
  unfold err val
  rw [r0, r1, r2, r3, p3]
  exact ⟨rfl, rfl, rfl, rfl, rfl, rfl, rfl, rfl, rfl⟩
theorem flags_of (v : Int) (h0 : 0 ≤ v) (h : v ≤ 3) : ((chunk_Encode.flags (decide (v = 1 ∨ v = 3)) (decide (v = 2 ∨ v = 3)) : Nat) : Int) = v := by
  have : v = 0 ∨ v = 1 ∨ v = 2 ∨ v = 3 := by omega
  rcases this with rfl | rfl | rfl | rfl <;> decide
open chunk_Decode in
/-- What reads as a chunk's numbers and text is that chunk's bytes, with what is behind them. -/
theorem read_body (l : List UInt8) (h0 : err l 0 = 0) (h1 : err l 1 = 0) (h2 : err l 2 = 0) (h3 : (txt l).2.1 = 0) (hv : val l 2 ≤ 3) :
    l = chunk_Encode.body (val l 0) (val l 1) (decide (val l 2 = 1 ∨ val l 2 = 3)) (decide (val l 2 = 2 ∨ val l 2 = 3)) ⟨(txt l).1.toArray⟩ ++ l.drop (pos l 3 + (txt l).2.2) := by
  have q0 := (rnum_canon0 (l.drop (pos l 0)) h0).2
  have q1 := (rnum_canon0 (l.drop (pos l 1)) h1).2
  have q2 := (rnum_canon0 (l.drop (pos l 2)) h2).2
  have q3 := (rtext_canon (l.drop (pos l 3)) h3).2
  have n0 := Hw.rnum_lt (l.drop (pos l 0)) 0 0 (by omega) (by decide)
  have n1 := Hw.rnum_lt (l.drop (pos l 1)) 0 0 (by omega) (by decide)
  have hfl := flags_of (val l 2) (Int.natCast_nonneg _) hv
  have hfn : chunk_Encode.flags (decide (val l 2 = 1 ∨ val l 2 = 3)) (decide (val l 2 = 2 ∨ val l 2 = 3)) = (Hw.rnum (l.drop (pos l 2)) 0 0).1 := by
    have : val l 2 = (((Hw.rnum (l.drop (pos l 2)) 0 0).1 : Nat) : Int) := rfl
    omega
  unfold chunk_Encode.body
  rw [hfn]
  have c0 : Hw.clamp (val l 0) = (Hw.rnum (l.drop (pos l 0)) 0 0).1 := Hw.clamp_nat _ n0
  have c1 : Hw.clamp (val l 1) = (Hw.rnum (l.drop (pos l 1)) 0 0).1 := Hw.clamp_nat _ n1
  rw [c0, c1, bs_size]
  have t3 : txt l = Hw.rtext (l.drop (pos l 3)) := rfl
  rw [t3]
  have d1 : l.drop (pos l 1) = (l.drop (pos l 0)).drop (Hw.rnum (l.drop (pos l 0)) 0 0).2.2 := by rw [List.drop_drop]; rfl
  have d2 : l.drop (pos l 2) = (l.drop (pos l 1)).drop (Hw.rnum (l.drop (pos l 1)) 0 0).2.2 := by rw [List.drop_drop]; rfl
  have d3 : l.drop (pos l 3) = (l.drop (pos l 2)).drop (Hw.rnum (l.drop (pos l 2)) 0 0).2.2 := by rw [List.drop_drop]; rfl
  rw [List.drop_drop] at q3
  rw [← d1] at q0
  rw [← d2] at q1
  rw [← d3] at q2
  have z : l.drop (pos l 0) = l := List.drop_zero
  rw [z] at q0
  rw [z]
  conv => lhs; rw [q0, q1, q2, q3]
  simp only [List.append_assoc]

theorem bs_extract (l : List UInt8) (a b : Nat) : (⟨l.toArray⟩ : ByteArray).extract a b = ⟨((l.take b).drop a).toArray⟩ := by
  apply ByteArray.ext
  rw [ByteArray.data_extract]
  simp [List.extract_toArray, List.drop_take]
theorem bs_data (l : List UInt8) : (⟨l.toArray⟩ : ByteArray).data.toList = l := rfl
theorem bs_list (l : List UInt8) : (⟨l.toArray⟩ : ByteArray).toList = l := by rw [ByteArray.toList_eq]
theorem bs_inj {a b : List UInt8} (h : (⟨a.toArray⟩ : ByteArray) = ⟨b.toArray⟩) : a = b := by
  have := congrArg (fun s : ByteArray => s.data.toList) h
  exact this
open chunk_Decode in
/-- What a text of bytes is as a chunk with its sum. -/
def cdec (s : ByteArray) : Int × Int × Bool × Bool × ByteArray × Int := if s.size < 4 then bad else if tl ⟨(s.data.toList.take (s.size - 4)).toArray⟩ = s.data.toList.drop (s.size - 4) then dec (s.data.toList.take (s.size - 4)) else bad
theorem ext_take (s : ByteArray) (n : Nat) : s.extract 0 n = ⟨(s.data.toList.take n).toArray⟩ := by
  conv => lhs; rw [← of_list s, bs_extract]
  rfl
theorem ext_drop (s : ByteArray) (n : Nat) : s.extract n s.size = ⟨(s.data.toList.drop n).toArray⟩ := by
  conv => lhs; rw [← of_list s, bs_extract, of_list s, ← data_length s, List.take_length]
theorem pdec_ev (s : ByteArray) (hs : s.size ≤ 1000000) : Ev (fun k => chunk_Decode.f k s) (cdec s) := by
  unfold chunk_Decode.f cdec
  by_cases h : s.size < 4
  · rw [if_pos h]
    exact (Ev.const _).of fun k => by rw [if_pos (by omega), if_pos (by omega)]
  · rw [if_neg h]
    have hl := data_length s
    have ht := ptail_ev ⟨(s.data.toList.take (s.size - 4)).toArray⟩ (by rw [bs_size, List.length_take]; omega)
    rw [← ext_take] at ht
    have hb := Ev.bind (f := fun _ t => if t.toList = (s.extract (s.size - 4) s.size).toList then some (chunk_Decode.dec (s.data.toList.take (s.size - 4))) else some chunk_Decode.bad) (v := if tl ⟨(s.data.toList.take (s.size - 4)).toArray⟩ = s.data.toList.drop (s.size - 4) then chunk_Decode.dec (s.data.toList.take (s.size - 4)) else chunk_Decode.bad) ht ((Ev.const _).of fun k => by
      rw [bs_list, ext_drop, bs_list, ext_take]
      split <;> rfl)
    exact hb.of fun k => by rw [if_pos (by omega), if_neg (by omega)]
open chunk_Decode in
/-- What decodes without an error, encodes to the same bytes. -/
theorem cdec_enc (s : ByteArray) (h : (cdec s).2.2.2.2.2 = 0) : encd (cdec s).1 (cdec s).2.1 (cdec s).2.2.1 (cdec s).2.2.2.1 (cdec s).2.2.2.2.1 = (s.data.toList, 0) := by
  unfold cdec at h ⊢
  by_cases h1 : s.size < 4
  · rw [if_pos h1] at h; exact absurd h (by decide)
  · rw [if_neg h1] at h ⊢
    by_cases h2 : tl ⟨(s.data.toList.take (s.size - 4)).toArray⟩ = s.data.toList.drop (s.size - 4)
    · rw [if_pos h2] at h ⊢
      have hD : s.data.toList = s.data.toList.take (s.size - 4) ++ s.data.toList.drop (s.size - 4) := (List.take_append_drop _ _).symm
      rw [← h2] at hD
      generalize hZ : s.data.toList = Z at hD ⊢
      rw [hZ] at h h2
      generalize Z.take (s.size - 4) = l at h h2 hD ⊢
      subst hD
      unfold dec at h ⊢
      by_cases hc : err l 0 = 0 ∧ err l 1 = 0 ∧ err l 2 = 0 ∧ (txt l).2.1 = 0 ∧ l.length ≤ pos l 3 + (txt l).2.2 ∧ val l 0 ≤ 1099511627776 ∧ val l 1 ≤ 1099511627776 ∧ val l 2 ≤ 3 ∧ (txt l).1.length ≤ 96
      · rw [if_pos hc]
        obtain ⟨c0, c1, c2, c3, c4, c5, c6, c7, c8⟩ := hc
        have hrb := read_body l c0 c1 c2 c3 c7
        rw [List.drop_eq_nil_of_le c4, List.append_nil] at hrb
        have p0 : 0 ≤ val l 0 := Int.natCast_nonneg _
        have p1 : 0 ≤ val l 1 := Int.natCast_nonneg _
        unfold encd
        simp only [bs_size]
        rw [if_neg (by omega), if_neg (by omega), ← hrb]
      · rw [if_neg hc] at h; exact absurd h (by decide)
    · rw [if_neg h2] at h; exact absurd h (by decide)

theorem flags_back (a b : Bool) : decide (((chunk_Encode.flags a b : Nat) : Int) = 1 ∨ ((chunk_Encode.flags a b : Nat) : Int) = 3) = a ∧ decide (((chunk_Encode.flags a b : Nat) : Int) = 2 ∨ ((chunk_Encode.flags a b : Nat) : Int) = 3) = b ∧ ((chunk_Encode.flags a b : Nat) : Int) ≤ 3 := by
  cases a <;> cases b <;> decide
open chunk_Decode in
/-- A chunk's bytes, with x behind them, decode to the chunk if x is nothing. -/
theorem dec_body (e q : Nat) (a b : Bool) (d : ByteArray) (x : List UInt8) (he : e ≤ 1099511627776) (hq : q ≤ 1099511627776) (hd : d.size ≤ 96) : dec (chunk_Encode.body e q a b d ++ x) = if x = [] then ((e : Int), (q : Int), a, b, d, 0) else bad := by
  obtain ⟨r0, r1, r2, r3, r4, r5, r6, r7, r8⟩ := body_read e q a b d x he hq hd
  obtain ⟨f1, f2, f3⟩ := flags_back a b
  have hl := data_length d
  unfold dec
  rw [r0, r1, r2, r3, r4, r5, r6, r7, r8, List.length_append, f1, f2, of_list]
  cases x with
  | nil => rw [if_pos (by simp; omega), if_pos rfl]
  | cons c r => rw [if_neg (by rw [List.length_cons]; omega), if_neg (by simp)]
theorem cdec_tl (l : List UInt8) : cdec ⟨(l ++ tl ⟨l.toArray⟩).toArray⟩ = chunk_Decode.dec l := by
  have h4 : (tl ⟨l.toArray⟩).length = 4 := rfl
  unfold cdec
  rw [bs_size, bs_data, List.length_append, h4, if_neg (by omega), show l.length + 4 - 4 = l.length by omega, List.take_left, List.drop_left, if_pos rfl]
theorem body_len2 (e q : Nat) (a b : Bool) (d : ByteArray) (he : e ≤ 1099511627776) (hq : q ≤ 1099511627776) (hd : d.size ≤ 96) : (chunk_Encode.body e q a b d).length ≤ 110 ∧ 0 < (chunk_Encode.body e q a b d).length := by
  have h1 := Hw.code_len 5 e (by omega)
  have h2 := Hw.code_len 5 q (by omega)
  have h3 := Hw.code_len 0 d.size (by omega)
  have h4 := data_length d
  unfold chunk_Encode.body
  rw [Hw.clamp_nat e (by omega), Hw.clamp_nat q (by omega)]
  simp only [List.length_append, chunk_Encode.flags_len]
  omega

theorem bt_left (s t : ByteArray) (i : Int) (h0 : 0 ≤ i) (h : i < s.size) : bt (s ++ t) i = bt s i := by
  have h1 : i.toNat < s.size := by omega
  have h2 : i.toNat < (s ++ t).size := by rw [ByteArray.size_append]; omega
  unfold bt
  rw [dif_pos h1, dif_pos h2, ByteArray.getElem_append_left h1]
theorem bt_right (s t : ByteArray) (i : Int) (h0 : 0 ≤ i) (h : i < t.size) : bt (s ++ t) (s.size + i) = bt t i := by
  have h1 : i.toNat < t.size := by omega
  have h2 : ((s.size : Int) + i).toNat < (s ++ t).size := by rw [ByteArray.size_append]; omega
  have h3 : s.size ≤ ((s.size : Int) + i).toNat := by omega
  have h4 : ((s.size : Int) + i).toNat - s.size = i.toNat := by omega
  unfold bt
  rw [dif_pos h1, dif_pos h2, ByteArray.getElem_append_right h3]
  simp only [h4]
theorem bt_nums (xs : List Int) (i : Int) (h : i.toNat < xs.length) (hb : ∀ x ∈ xs, 0 ≤ x ∧ x ≤ 255) : bt (strOfNums xs) i = xs.getD i.toNat 0 := by
  have hi : i.toNat < (strOfNums xs).size := by rw [strOfNums_size]; exact h
  have hx := hb _ (List.getElem_mem h)
  unfold bt
  rw [dif_pos hi]
  have e1 : (strOfNums xs)[i.toNat] = UInt8.ofNat (xs[i.toNat]).toNat := by
    show ((xs.map fun n => UInt8.ofNat n.toNat).toArray)[i.toNat]'(by simpa using h) = _
    simp
  rw [e1, List.getD_eq_getElem?_getD, List.getElem?_eq_getElem h, Option.getD_some]
  simp
  omega

theorem bt_cut (s : ByteArray) (a b : Nat) (i : Int) (h0 : 0 ≤ i) (h : a + i < b) (hb : b ≤ s.size) : bt (s.extract a b) i = bt s (a + i) := by
  have hz : (s.extract a b).size = b - a := by rw [ByteArray.size_extract]; omega
  have h1 : i.toNat < (s.extract a b).size := by omega
  have h2 : ((a : Int) + i).toNat < s.size := by omega
  unfold bt
  rw [dif_pos h1, dif_pos h2, ByteArray.getElem_extract]
  have h4 : a + i.toNat = ((a : Int) + i).toNat := by omega
  simp only [h4]
theorem one_spot (x : Int) (n : Nat) (h : 0 < n) (hn : n ≤ 1024) : ∃ K : Nat, K < n ∧ Int.tmod (wrap64 (Int.tmod x (n : Int) + (n : Int))) (n : Int) = (K : Int) := by
  have h1 : -(n : Int) < Int.tmod x (n : Int) ∧ Int.tmod x (n : Int) < n := by
    exact ⟨Int.lt_tmod_of_pos x (by omega), Int.tmod_lt_of_pos x (by omega)⟩
  have h2 : wrap64 (Int.tmod x (n : Int) + (n : Int)) = Int.tmod x (n : Int) + (n : Int) := wrap64_in _ (by omega) (by omega)
  rw [h2, Int.tmod_eq_emod_of_nonneg (by omega)]
  have h3 := Int.emod_nonneg (Int.tmod x (n : Int) + (n : Int)) (show (n : Int) ≠ 0 by omega)
  have h4 := Int.emod_lt_of_pos (Int.tmod x (n : Int) + (n : Int)) (show (0 : Int) < (n : Int) by omega)
  exact ⟨((Int.tmod x (n : Int) + (n : Int)) % (n : Int)).toNat, by omega, by omega⟩
/-- s with b at K. -/
def setb (s : ByteArray) (K : Nat) (b : Int) : ByteArray := s.extract 0 K ++ strOfNums [b] ++ s.extract (K + 1) s.size
theorem setb_size (s : ByteArray) (K : Nat) (b : Int) (h : K < s.size) : (setb s K b).size = s.size := by
  unfold setb
  rw [ByteArray.size_append, ByteArray.size_append, strOfNums_size, ByteArray.size_extract, ByteArray.size_extract]
  simp
  omega
theorem setb_at (s : ByteArray) (K : Nat) (b : Int) (h : K < s.size) (h0 : 0 ≤ b) (h1 : b ≤ 255) (i : Int) (hi : 0 ≤ i) (hn : i < s.size) : bt (setb s K b) i = if i = K then b else bt s i := by
  have z1 : (s.extract 0 K).size = K := by rw [ByteArray.size_extract]; omega
  have z2 : (strOfNums [b]).size = 1 := by rw [strOfNums_size]; rfl
  have z3 : (s.extract 0 K ++ strOfNums [b]).size = K + 1 := by rw [ByteArray.size_append]; omega
  have z4 : (s.extract (K + 1) s.size).size = s.size - (K + 1) := by rw [ByteArray.size_extract]; omega
  unfold setb
  by_cases hk : i = K
  · rw [if_pos hk, bt_left _ _ _ hi (by omega)]
    have := bt_right (s.extract 0 K) (strOfNums [b]) 0 (by omega) (by omega)
    rw [z1, Int.add_zero] at this
    rw [hk, this, bt_nums [b] 0 (by simp) (by simp; omega)]
    rfl
  · rw [if_neg hk]
    by_cases hl : i < K
    · rw [bt_left _ _ _ hi (by omega), bt_left _ _ _ hi (by omega), bt_cut s 0 K i hi (by omega) (by omega)]
      simp
    · have := bt_right (s.extract 0 K ++ strOfNums [b]) (s.extract (K + 1) s.size) (i - (K + 1 : Nat)) (by omega) (by omega)
      rw [z3, show ((K + 1 : Nat) : Int) + (i - (K + 1 : Nat)) = i by omega, bt_cut s (K + 1) s.size _ (by omega) (by omega) (by omega), show ((K + 1 : Nat) : Int) + (i - (K + 1 : Nat)) = i by omega] at this
      exact this
theorem setb_crc (s : ByteArray) (K : Nat) (b : Nat) (h : K < s.size) (hb : b < 256) : (crcd s = crcd (setb s K b)) ↔ bt s K = (b : Int) := by
  have hz := setb_size s K b h
  have hat := setb_at s K b h (by omega) (by omega)
  have parts : ∀ t : ByteArray, t.size = s.size → cgo t t.size 0 4294967295 = cgo t (s.size - K - 1) (K + 1) (stp (cgo t K 0 4294967295) (bt t K).toNat) := by
    intro t ht
    rw [ht, show s.size = K + (1 + (s.size - K - 1)) by omega, cgo_add, cgo_add]
    simp only [cgo]
    rw [show K + (1 + (s.size - K - 1)) - K - 1 = s.size - K - 1 by omega, Int.zero_add]
    rfl
  have p1 : cgo (setb s K b) K 0 4294967295 = cgo s K 0 4294967295 := by
    have := cgo_congr (setb s K b) s 0 K 0 4294967295 (fun j hj => by rw [hat _ (by omega) (by omega), if_neg (by omega)]; simp)
    simpa using this
  have p2 : ∀ c, cgo (setb s K b) (s.size - K - 1) (K + 1) c = cgo s (s.size - K - 1) (K + 1) c := by
    intro c
    have := cgo_congr (setb s K b) s 0 (s.size - K - 1) (K + 1) c (fun j hj => by rw [hat _ (by omega) (by omega), if_neg (by omega)]; simp)
    simpa using this
  have p3 : (bt (setb s K b) K).toNat = b := by rw [hat _ (by omega) (by omega), if_pos rfl]; simp
  have hc : cgo s K 0 4294967295 < 2 ^ 32 := cgo_lt _ _ _ _ (by omega)
  have e1 := parts s rfl
  have e2 := parts (setb s K b) hz
  rw [p1, p2, p3] at e2
  unfold crcd
  rw [e1, e2]
  constructor
  · intro hh
    have h1 := xor_cancl _ _ _ hh
    have h2 := cgo_inj s _ _ _ _ (stp_lt _ _ hc (bt_lt s K)) (stp_lt _ _ hc hb) h1
    have h3 := stp_injr _ _ _ hc (bt_lt s K) hb h2
    rw [← bt_cast, h3]
  · intro hh
    rw [hh]; simp

theorem le4_inj {a b : Nat} (ha : a < 4294967296) (hb : b < 4294967296) (h : le4 a = le4 b) : a = b := by
  unfold le4 at h
  simp only [List.cons.injEq, and_true] at h
  obtain ⟨h0, h1, h2, h3⟩ := h
  have g : ∀ x y : Nat, x < 256 → y < 256 → UInt8.ofNat x = UInt8.ofNat y → x = y := by
    intro x y hx hy e
    have := congrArg UInt8.toNat e
    rw [u8_nat x hx, u8_nat y hy] at this
    exact this
  have := g _ _ (by omega) (by omega) h0
  have := g _ _ (by omega) (by omega) h1
  have := g _ _ (by omega) (by omega) h2
  have := g _ _ (by omega) (by omega) h3
  omega
theorem one_byte (b : UInt8) : strOfNums [(b.toNat : Int)] = ⟨[b].toArray⟩ := str_nums [b]
theorem setb_list (l : List UInt8) (K : Nat) (b : UInt8) (h : K < l.length) : setb ⟨l.toArray⟩ K (b.toNat : Int) = ⟨(l.set K b).toArray⟩ := by
  unfold setb
  rw [one_byte, bs_extract, bs_extract, bs_size, bs_app, bs_app, List.take_length, List.drop_zero, List.set_eq_take_append_cons_drop, if_pos h, List.append_assoc]
  rfl
theorem bt_list (l : List UInt8) (K : Nat) (h : K < l.length) : bt ⟨l.toArray⟩ (K : Int) = ((l[K].toNat : Nat) : Int) := by
  unfold bt
  rw [dif_pos (by rw [bs_size]; exact h)]
  rfl
/-- A chunk's bytes, the one at K made b: still a chunk just if it was b. -/
theorem cdec_spoil (l : List UInt8) (K : Nat) (b : UInt8) (hK : K < (l ++ tl ⟨l.toArray⟩).length) (hb : (l ++ tl ⟨l.toArray⟩)[K] ≠ b) : cdec ⟨((l ++ tl ⟨l.toArray⟩).set K b).toArray⟩ = chunk_Decode.bad := by
  have h4 : (tl ⟨l.toArray⟩).length = 4 := rfl
  have hl : ((l ++ tl ⟨l.toArray⟩).set K b).length - 4 = l.length := by rw [List.length_set, List.length_append, h4]; omega
  unfold cdec
  rw [bs_size, bs_data, hl, if_neg (by rw [List.length_set, List.length_append, h4]; omega), if_neg]
  rw [List.set_append]
  have hK2 := hK
  rw [List.length_append, h4] at hK2
  by_cases h : K < l.length
  · rw [if_pos h, show l.length = (l.set K b).length by rw [List.length_set], List.take_left, List.drop_left]
    rw [List.getElem_append_left h] at hb
    intro e
    have e2 := le4_inj (crcd_lt _) (crcd_lt _) e
    rw [← setb_list l K b h] at e2
    have := (setb_crc ⟨l.toArray⟩ K b.toNat (by rw [bs_size]; exact h) b.toNat_lt).1 e2.symm
    rw [bt_list l K h] at this
    exact hb (UInt8.toNat_inj.1 (by omega))
  · rw [if_neg h, List.take_left, List.drop_left]
    rw [List.getElem_append_right (by omega)] at hb
    intro e
    have := congrArg (fun t : List UInt8 => t[K - l.length]?) e
    simp only [List.getElem?_set, if_true] at this
    rw [if_pos (by omega), List.getElem?_eq_getElem (by omega)] at this
    exact hb (Option.some.inj this)
open chunk_Decode in
theorem dec_err (l : List UInt8) (h : (dec l).2.2.2.2.2 = 0) : ∃ (e q : Nat) (a b : Bool) (d : ByteArray), e ≤ 1099511627776 ∧ q ≤ 1099511627776 ∧ d.size ≤ 96 ∧ l = chunk_Encode.body e q a b d := by
  unfold dec at h
  by_cases hc : err l 0 = 0 ∧ err l 1 = 0 ∧ err l 2 = 0 ∧ (txt l).2.1 = 0 ∧ l.length ≤ pos l 3 + (txt l).2.2 ∧ val l 0 ≤ 1099511627776 ∧ val l 1 ≤ 1099511627776 ∧ val l 2 ≤ 3 ∧ (txt l).1.length ≤ 96
  · obtain ⟨c0, c1, c2, c3, c4, c5, c6, c7, c8⟩ := hc
    have hrb := read_body l c0 c1 c2 c3 c7
    rw [List.drop_eq_nil_of_le c4, List.append_nil] at hrb
    have p0 : val l 0 = (((Hw.rnum (l.drop (pos l 0)) 0 0).1 : Nat) : Int) := rfl
    have p1 : val l 1 = (((Hw.rnum (l.drop (pos l 1)) 0 0).1 : Nat) : Int) := rfl
    exact ⟨_, _, _, _, _, by omega, by omega, by rw [bs_size]; exact c8, hrb⟩
  · rw [if_neg hc] at h; exact absurd h (by decide)
theorem dec_two (l : List UInt8) : (chunk_Decode.dec l).2.2.2.2.2 = 0 ∨ chunk_Decode.dec l = chunk_Decode.bad := by
  unfold chunk_Decode.dec
  split
  · exact .inl rfl
  · exact .inr rfl
/-- What begins a chunk's bytes is no chunk, nor what goes on behind them. -/
theorem dec_short (e q : Nat) (a b : Bool) (d : ByteArray) (n : Nat) (he : e ≤ 1099511627776) (hq : q ≤ 1099511627776) (hd : d.size ≤ 96) (hn : n < (chunk_Encode.body e q a b d).length) : chunk_Decode.dec ((chunk_Encode.body e q a b d).take n) = chunk_Decode.bad := by
  rcases dec_two ((chunk_Encode.body e q a b d).take n) with h | h
  · obtain ⟨e', q', a', b', d', h1, h2, h3, h4⟩ := dec_err _ h
    have h5 := dec_body e q a b d [] he hq hd
    rw [List.append_nil, if_pos rfl] at h5
    have h6 := dec_body e' q' a' b' d' ((chunk_Encode.body e q a b d).drop n) h1 h2 h3
    rw [← h4, List.take_append_drop, h5, if_neg (by intro hh; have := congrArg List.length hh; rw [List.length_drop] at this; simp at this; omega)] at h6
    have h7 : (0 : Int) = 21 := congrArg (fun t : Int × Int × Bool × Bool × ByteArray × Int => t.2.2.2.2.2) h6
    exact absurd h7 (by decide)
  · exact h
theorem cdec_short (l : List UInt8) (n : Nat) (h : ∀ m, m < l.length → chunk_Decode.dec (l.take m) = chunk_Decode.bad) (hn : n < l.length + 4) : cdec ⟨((l ++ tl ⟨l.toArray⟩).take n).toArray⟩ = chunk_Decode.bad := by
  have h4 : (tl ⟨l.toArray⟩).length = 4 := rfl
  unfold cdec
  rw [bs_size, bs_data, List.length_take, List.length_append, h4, Nat.min_eq_left (by omega)]
  split
  · rfl
  · split
    · rw [List.take_take, Nat.min_eq_left (by omega), List.take_append_of_le_length (by omega)]
      exact h _ (by omega)
    · rfl
theorem bad_err : chunk_Decode.bad.2.2.2.2.2 = 21 := rfl

theorem spoilt_j0 (x1 : Int) (c : UInt8) (e q : Int) (a b : Bool) (d : ByteArray) (h : d.size ≤ 96) : Ev (fun k => cubbylaw04_ChunkSpoilt.j0 k x1 (c.toNat : Int) e q a b d) true := by
  refine Ev.succ ?_
  simp only [cubbylaw04_ChunkSpoilt.j0]
  have henc := renc_ev e q a b d
  have penc := penc_ev e q a b d
  unfold encd at henc penc
  by_cases c1 : e < 0 ∨ e > 1099511627776 ∨ q < 0 ∨ q > 1099511627776
  · rw [if_pos c1] at henc penc
    refine Ev.bind penc (Ev.bind henc ((Ev.const _).of fun k => rfl))
  · rw [if_neg c1, if_neg (by omega)] at henc penc
    obtain ⟨m, rfl⟩ : ∃ m : Nat, e = (m : Int) := ⟨e.toNat, by omega⟩
    obtain ⟨n, rfl⟩ : ∃ n : Nat, q = (n : Int) := ⟨q.toNat, by omega⟩
    have hl := body_len2 m n a b d (by omega) (by omega) (by omega)
    have hb := dec_body m n a b d [] (by omega) (by omega) (by omega)
    rw [List.append_nil, if_pos rfl] at hb
    refine Ev.bind penc (Ev.bind henc ?_)
    generalize chunk_Encode.body (m : Int) (n : Int) a b d = B at hl hb ⊢
    have h4 : (tl ⟨B.toArray⟩).length = 4 := rfl
    have hL : (B ++ tl ⟨B.toArray⟩).length = B.length + 4 := by rw [List.length_append, h4]
    obtain ⟨K, hK, eK⟩ := one_spot x1 (B ++ tl ⟨B.toArray⟩).length (by omega) (by omega)
    have good := cdec_tl B
    rw [hb] at good
    have spoil := cdec_spoil B K c hK
    generalize B ++ tl ⟨B.toArray⟩ = L at hL hK eK good spoil ⊢
    have z := bs_size L
    have p1 := pdec_ev ⟨(L.set K c).toArray⟩ (by rw [bs_size, List.length_set]; omega)
    have zc : (strOfNums [(c.toNat : Int)]).size = 1 := by rw [strOfNums_size]; rfl
    have z1 : ((⟨L.toArray⟩ : ByteArray).extract 0 K).size = K := by rw [ByteArray.size_extract]; omega
    have z2 : ((⟨L.toArray⟩ : ByteArray).extract (K + 1) L.length).size = L.length - (K + 1) := by rw [ByteArray.size_extract]; omega
    have hset : (⟨L.toArray⟩ : ByteArray).extract 0 K ++ strOfNums [(c.toNat : Int)] ++ (⟨L.toArray⟩ : ByteArray).extract (K + 1) L.length = ⟨(L.set K c).toArray⟩ := by
      rw [← setb_list L K c hK]
      unfold setb
      rw [z]
    have hbt := bt_list L K hK
    simp only [z, eK, wnat K (by omega), Int.toNat_natCast, hset, hbt]
    clear eK
    refine Ev.of ?_ fun k => (if_pos trivial).trans ((if_pos trivial).trans ((if_neg (by omega)).trans ((if_pos (by omega)).trans (if_pos (by omega)))))
    refine Ev.bind (g := fun _ => some [(c.toNat : Int)]) (Ev.const _) ?_
    simp only [zc, z1, z2, ByteArray.size_append, hset]
    refine Ev.of ?_ fun k => (if_pos (by omega)).trans ((if_pos (by omega)).trans ((if_pos (by omega)).trans (if_pos (by omega))))
    refine Ev.bind p1 ((Ev.const _).of fun k => ?_)
    rw [if_pos (by omega), bs_list (L.set K c), bs_list L]
    by_cases hc : L[K] = c
    · have hs : L.set K c = L := by rw [← hc, List.set_getElem_self]
      rw [hs, good]
      simp [hc]
    · rw [spoil hc]
      have hn : L.set K c ≠ L := by
        intro hh
        have := congrArg (fun t : List UInt8 => t[K]?) hh
        simp only [List.getElem?_set, if_true] at this
        rw [if_pos hK, List.getElem?_eq_getElem hK] at this
        exact hc (Option.some.inj this).symm
      have hcn : ((L[K].toNat : Int) == (c.toNat : Int)) = false := by
        rw [beq_eq_false_iff_ne]
        intro hh
        exact hc (UInt8.toNat_inj.1 (by omega))
      have hln : (L.set K c == L) = false := by simpa using hn
      rw [hcn, hln, bad_err]
      have : ((21 : Int) == 0) = false := rfl
      rw [this]
      simp
theorem ChunkSpoilt : cubbylaw04_ChunkSpoilt.Pure := by
  intro e q a b d x1 x2 _ _ _ _ hx
  obtain ⟨n, rfl, hn⟩ := wf_u8 x2 hx
  have e2 : (n : Int) = ((UInt8.ofNat n).toNat : Int) := by rw [u8_nat n hn]
  rw [e2]
  refine Ev.get (g := fun k => cubbylaw04_ChunkSpoilt.f k e q a b d x1 ((UInt8.ofNat n).toNat : Int)) ?_
  unfold cubbylaw04_ChunkSpoilt.f
  by_cases h1 : (d.size : Int) > 96
  · exact (spoilt_j0 x1 _ e q a b (d.extract 0 96) (by rw [ByteArray.size_extract]; omega)).of fun k => by rw [if_pos h1, if_pos (by omega), if_pos (by omega)]
  · exact (spoilt_j0 x1 _ e q a b d (by omega)).of fun k => by rw [if_neg h1]

end Go.Proofs.Ytndmfbaffkekgaa.Pure
