/- The pure law behind SumWords: for every input that its bounds let in, the law's function answers true. Conditions: none. -/
import Derived.Test.YtcajpaflaeaakaaPSumWordsx1
namespace Go.Proofs.Ytcajpaflaeaakaa.Pure
open Go.RowKit Go.Proofs.Ytcajpaflaeaakaa.PSumWords Go.Proofs.YtcajpaflaeaakaaW.PrintWords Go.Proofs.YtcajpaflaeaakaaW.PrintLast

theorem wrap64_in (n : Int) (h : 0 ≤ n) (h2 : n < 9223372036854775808) : wrap64 n = n := by unfold wrap64; omega
/-- One byte of the digest. -/
def mst (h c : Int) : Int := IntKind.u64.wrap ((Go.bits .xor .u64 h (IntKind.u64.wrap c)) * 1099511628211)
/-- d bytes of s from place i on. -/
def mgo (s : ByteArray) : Nat → Int → Int → Int
  | 0, _, h => h
  | d + 1, i, h => mgo s d (i + 1) (mst h (bt s i))
theorem smix_l0 (s : ByteArray) (hs : s.size ≤ 9223372036854775807) (d : Nat) : ∀ (k : Nat) (i h : Int), 0 ≤ i → i + d = s.size → d < k → sum_Mix.l0 k s h (s.size : Int) i = some (mgo s d i h) := by
  induction d with
  | zero =>
    intro k i h h0 h1 hk
    obtain ⟨k, rfl⟩ : ∃ m, k = m + 1 := ⟨k - 1, by omega⟩
    simp only [sum_Mix.l0]; rw [if_neg (by omega)]; rfl
  | succ d ih =>
    intro k i h h0 h1 hk
    obtain ⟨k, rfl⟩ : ∃ m, k = m + 1 := ⟨k - 1, by omega⟩
    simp only [sum_Mix.l0]; rw [if_pos (by omega), if_pos h0, if_pos (by omega), wrap64_in _ (by omega) (by omega)]
    exact ih k (i + 1) _ (by omega) (by omega) (by omega)
theorem rmix_l0 (s : ByteArray) (hs : s.size ≤ 9223372036854775807) (d : Nat) : ∀ (k : Nat) (i h : Int), 0 ≤ i → i + d = s.size → d < k → cubbyref01_Mix.l0 k s h i = some (mgo s d i h) := by
  induction d with
  | zero =>
    intro k i h h0 h1 hk
    obtain ⟨k, rfl⟩ : ∃ m, k = m + 1 := ⟨k - 1, by omega⟩
    simp only [cubbyref01_Mix.l0]; rw [if_neg (by omega)]; rfl
  | succ d ih =>
    intro k i h h0 h1 hk
    obtain ⟨k, rfl⟩ : ∃ m, k = m + 1 := ⟨k - 1, by omega⟩
    simp only [cubbyref01_Mix.l0]; rw [if_pos (by omega), if_pos h0, wrap64_in _ (by omega) (by omega)]
    exact ih k (i + 1) _ (by omega) (by omega) (by omega)
/-- The digest. -/
def mixd (s : ByteArray) : Int := mgo s s.size 0 14695981039346656037
theorem smix_f (s : ByteArray) (k : Nat) (hs : s.size ≤ 9223372036854775807) (hk : s.size < k) : sum_Mix.f k s = some (mixd s) :=
  smix_l0 s hs s.size k 0 _ (by omega) (by omega) hk
theorem rmix_f (s : ByteArray) (k : Nat) (hs : s.size ≤ 9223372036854775807) (hk : s.size < k) : cubbyref01_Mix.f k s = some (mixd s) :=
  rmix_l0 s hs s.size k 0 _ (by omega) (by omega) hk
theorem bt_left (s t : ByteArray) (i : Int) (h0 : 0 ≤ i) (h : i < s.size) : bt (s ++ t) i = bt s i := by
  have h1 : i.toNat < s.size := by omega
  have h2 : i.toNat < (s ++ t).size := by rw [ByteArray.size_append]; omega
  unfold bt
  rw [dif_pos h1, dif_pos h2, ByteArray.getElem_append_left h1]
theorem bt_right (s t : ByteArray) (i : Int) (h0 : 0 ≤ i) (h : i < t.size) : bt (s ++ t) (s.size + i) = bt t i := by
  have h1 : i.toNat < t.size := by omega
  have h2 : ((s.size : Int) + i).toNat < (s ++ t).size := by rw [ByteArray.size_append]; omega
  have h3 : s.size ≤ ((s.size : Int) + i).toNat := by omega
  have h4 : ((s.size : Int) + i).toNat - s.size = i.toNat := by omega
  unfold bt
  rw [dif_pos h1, dif_pos h2, ByteArray.getElem_append_right h3]
  simp only [h4]
theorem mgo_app (s t : ByteArray) (m : Nat) (d : Nat) : ∀ (i h : Int), 0 ≤ i → i + d = s.size → mgo (s ++ t) (d + m) i h = mgo (s ++ t) m s.size (mgo s d i h) := by
  induction d with
  | zero => intro i h h0 h1; obtain rfl : i = s.size := by omega
            rw [Nat.zero_add]; rfl
  | succ d ih =>
    intro i h h0 h1
    rw [show d + 1 + m = (d + m) + 1 by omega]
    simp only [mgo]
    rw [bt_left s t i h0 (by omega)]
    exact ih (i + 1) _ (by omega) (by omega)
theorem bt_nums (xs : List Int) (i : Int) (h : i.toNat < xs.length) (hb : ∀ x ∈ xs, 0 ≤ x ∧ x ≤ 255) : bt (strOfNums xs) i = xs.getD i.toNat 0 := by
  have hi : i.toNat < (strOfNums xs).size := by rw [strOfNums_size]; exact h
  have hx := hb _ (List.getElem_mem h)
  unfold bt
  rw [dif_pos hi]
  have e1 : (strOfNums xs)[i.toNat] = UInt8.ofNat (xs[i.toNat]).toNat := by
    show ((xs.map fun n => UInt8.ofNat n.toNat).toArray)[i.toNat]'(by simpa using h) = _
    simp
  rw [e1, List.getD_eq_getElem?_getD, List.getElem?_eq_getElem h, Option.getD_some]
  simp
  omega
theorem bnd_u8 (a : Int) (h : (Lit.int .u8 a).wf = true) : 0 ≤ a ∧ a ≤ 255 := by
  simp [Lit.wf, IntKind.min, IntKind.max, IntKind.signed, IntKind.bits] at h
  omega

theorem SumWords : cubbylaw01_SumWords.Pure := by
  intro s b hs wb
  by_cases hb : (s.size : Int) > 1024
  · exact ⟨0, by unfold cubbylaw01_SumWords.f; rw [if_pos hb]⟩
  have h1 : (strOfNums [b]).size = 1 := by simp [strOfNums_size]
  have hb2 : bt (strOfNums [b]) 0 = b := by
    have := bnd_u8 b wb
    rw [bt_nums [b] 0 (by simp) (by simp; omega)]
    rfl
  have e : mixd (s ++ strOfNums [b]) = mst (mixd s) b := by
    unfold mixd
    rw [ByteArray.size_append, h1, mgo_app s _ 1 s.size 0 _ (by omega) (by omega)]
    simp only [mgo]
    have := bt_right s (strOfNums [b]) 0 (by omega) (by omega)
    rw [Int.add_zero] at this
    rw [this, hb2]
  refine ⟨s.size + 2, ?_⟩
  unfold cubbylaw01_SumWords.f
  rw [if_neg hb]
  simp only [Option.bind_some]
  rw [if_pos (by omega), smix_f (s ++ strOfNums [b]) _ (by rw [ByteArray.size_append]; omega) (by rw [ByteArray.size_append]; omega)]
  simp only [Option.bind_some]
  rw [smix_f s _ (by omega) (by omega), rmix_f s _ (by omega) (by omega)]
  simp only [Option.bind_some]
  rw [e]
  have e2 : IntKind.u64.wrap (Go.bits .xor .u64 (mixd s) (IntKind.u64.wrap b) * 1099511628211) = mst (mixd s) b := rfl
  rw [e2, if_pos rfl]
  simp

end Go.Proofs.Ytcajpaflaeaakaa.Pure
