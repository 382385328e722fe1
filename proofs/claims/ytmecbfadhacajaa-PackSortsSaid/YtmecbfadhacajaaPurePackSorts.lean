/- The pure law behind PackSorts: for every input that its bounds let in, the law's function answers true. Conditions: none. -/
import Derived.Test.YtmecbfadhacajaaPPackSortsx1
set_option linter.unusedVariables false
namespace Go.Proofs.Ytmecbfadhacajaa.Pure
open Go.RowKit Go.Proofs.Ytmecbfadhacajaa.PPackSorts Go.Proofs.YtmecbfadhacajaaW.PrintWords Go.Proofs.YtmecbfadhacajaaW.PrintLast

theorem wrap64_in (n : Int) (h : -9223372036854775808 ≤ n) (h2 : n < 9223372036854775808) : wrap64 n = n := by unfold wrap64; omega
/-- With fuel enough it answers v. -/
def Ev {α : Type} (g : Nat → Option α) (v : α) : Prop := ∃ k0, ∀ k, k0 ≤ k → g k = some v
theorem Ev.succ {α : Type} {g : Nat → Option α} {v : α} (h : Ev (fun k => g (k + 1)) v) : Ev g v := by
  obtain ⟨k0, h⟩ := h
  refine ⟨k0 + 1, fun k hk => ?_⟩
  obtain ⟨k, rfl⟩ : ∃ m, k = m + 1 := ⟨k - 1, by omega⟩
  exact h k (by omega)
theorem Ev.bind {α β : Type} {g : Nat → Option α} {f : Nat → α → Option β} {a : α} {v : β} (h1 : Ev g a) (h2 : Ev (fun k => f k a) v) : Ev (fun k => (g k).bind (f k)) v := by
  obtain ⟨k1, h1⟩ := h1
  obtain ⟨k2, h2⟩ := h2
  refine ⟨k1 + k2, fun k hk => ?_⟩
  show (g k).bind (f k) = some v
  rw [h1 k (by omega)]
  exact h2 k (by omega)
theorem Ev.const {α : Type} (v : α) : Ev (fun _ => some v) v := ⟨0, fun _ _ => rfl⟩
theorem Ev.get {α : Type} {g : Nat → Option α} {v : α} (h : Ev g v) : ∃ k, g k = some v := by
  obtain ⟨k0, h⟩ := h
  exact ⟨k0, h k0 (Nat.le_refl _)⟩
theorem Ev.of {α : Type} {g g' : Nat → Option α} {v : α} (h : Ev g v) (e : ∀ k, g' k = g k) : Ev g' v := by
  obtain ⟨k0, h⟩ := h
  exact ⟨k0, fun k hk => (e k).trans (h k hk)⟩
theorem wnat (i : Nat) (h : i < 9223372036854775807) : wrap64 ((i : Int) + 1) = ((i + 1 : Nat) : Int) := by rw [wrap64_in _ (by omega) (by omega)]; omega

open pack_Writer_Number in
theorem code_mono (k : Nat) : ∀ m n, m ≤ n → n < k → (code m).length ≤ (code n).length := by
  induction k with
  | zero => intro m n _ h; omega
  | succ k ih =>
    intro m n hmn hn
    by_cases h1 : m < 128
    · rw [code_lo m h1]
      exact List.length_pos_iff.2 (code_ne n)
    · rw [code_hi m h1, code_hi n (by omega), List.length_cons, List.length_cons]
      have := ih (m / 128) (n / 128) (Nat.div_le_div_right hmn) (by omega)
      omega
open pack_Writer_Number in
theorem code_inj (k : Nat) : ∀ m n, m < k → code m = code n → m = n := by
  have hb : ∀ a b : Nat, a < 256 → b < 256 → UInt8.ofNat a = UInt8.ofNat b → a = b := by
    intro a b ha hb h
    have := congrArg UInt8.toNat h
    rw [UInt8.toNat_ofNat', UInt8.toNat_ofNat'] at this
    omega
  induction k with
  | zero => intro m n h; omega
  | succ k ih =>
    intro m n hm h
    by_cases h1 : m < 128
    · by_cases h2 : n < 128
      · rw [code_lo m h1, code_lo n h2] at h
        exact hb _ _ (by omega) (by omega) (List.cons.inj h).1
      · rw [code_lo m h1, code_hi n h2] at h
        exact absurd (List.cons.inj h).2.symm (code_ne _)
    · by_cases h2 : n < 128
      · rw [code_hi m h1, code_lo n h2] at h
        exact absurd (List.cons.inj h).2 (code_ne _)
      · rw [code_hi m h1, code_hi n h2] at h
        obtain ⟨h3, h4⟩ := List.cons.inj h
        have h5 := ih (m / 128) (n / 128) (by omega) h4
        have h6 := hb _ _ (by omega) (by omega) h3
        omega
open pack_Writer_Number in
theorem code_one (n : Nat) : (code n).length = 1 ↔ n < 128 := by
  by_cases h : n < 128
  · rw [code_lo n h]; simp [h]
  · rw [code_hi n h, List.length_cons]
    have := List.length_pos_iff.2 (code_ne (n / 128))
    omega
open pack_Writer_Number in
theorem mx_clamp (n : Int) : mx 0 (mn n 72057594037927935) = ((clamp n : Nat) : Int) := by
  unfold mx mn clamp
  split <;> split <;> (try split) <;> omega
/-- Bytes, as the reference holds them. -/
def nums8 (l : List UInt8) : List Int := l.map fun x => (x.toNat : Int)
theorem str_nums (l : List UInt8) : strOfNums (nums8 l) = ⟨l.toArray⟩ := by
  unfold strOfNums nums8
  rw [List.map_map]
  congr 2
  have : ∀ x : UInt8, ((fun n : Int => UInt8.ofNat n.toNat) ∘ fun x : UInt8 => (x.toNat : Int)) x = x := by intro x; simp
  rw [show ((fun n : Int => UInt8.ofNat n.toNat) ∘ fun x : UInt8 => (x.toNat : Int)) = id from funext this, List.map_id]
open pack_Writer_Number in
theorem rcode_l0 (b : Nat) : ∀ (m : Nat) (acc : List UInt8), m < b → m < 72057594037927936 → acc.length + (code m).length ≤ 1000 → Ev (fun k => cubbyref02_Code.l0 k (m : Int) (nums8 acc)) ⟨(acc ++ code m).toArray⟩ := by
  induction b with
  | zero => intro m acc h; omega
  | succ b ih =>
    intro m acc hm hm2 hl
    have hlen : (nums8 acc).length = acc.length := by simp [nums8]
    refine Ev.succ ?_
    simp only [cubbyref02_Code.l0]
    by_cases h : m < 128
    · rw [code_lo m h]
      refine (Ev.const _).of fun k => ?_
      have e : (m : Int) % 256 = ((UInt8.ofNat m).toNat : Int) := by rw [UInt8.toNat_ofNat']; omega
      rw [if_neg (by omega), if_pos (by omega), e, ← str_nums]
      congr 2
      simp [nums8]
    · rw [code_hi m h] at hl ⊢
      rw [List.length_cons] at hl
      have h2 := ih (m / 128) (acc ++ [UInt8.ofNat (m % 128 + 128)]) (by omega) (by omega) (by rw [List.length_append, List.length_singleton]; omega)
      rw [List.append_assoc, List.singleton_append] at h2
      refine h2.of fun k => ?_
      have e1 : Int.tdiv (m : Int) 128 = ((m / 128 : Nat) : Int) := rfl
      have e2 : Int.tmod (m : Int) 128 = ((m % 128 : Nat) : Int) := rfl
      have e3 : (wrap64 (((m % 128 : Nat) : Int) + 128)) % 256 = ((UInt8.ofNat (m % 128 + 128)).toNat : Int) := by rw [wrap64_in _ (by omega) (by omega), UInt8.toNat_ofNat']; omega
      rw [if_pos (by omega), if_pos (by omega), e1, e2, e3, wrap64_in _ (by omega) (by omega)]
      congr 1
      simp [nums8]
open pack_Writer_Number in
theorem rcode_ev (n : Int) : Ev (fun k => cubbyref02_Code.f k n) ⟨(code (clamp n)).toArray⟩ := by
  have hc := clamp_lt n
  refine (rcode_l0 (clamp n + 1) (clamp n) [] (by omega) hc (by have := code_len 7 (clamp n) hc; simp; omega)).of fun k => ?_
  unfold cubbyref02_Code.f
  rw [mx_clamp]
  rfl

theorem bnd {α β : Type} (a : α) (f : α → Option β) : (some a).bind f = f a := rfl
theorem bytes_beq (l l' : List UInt8) : ((⟨l.toArray⟩ : ByteArray).toList == (⟨l'.toArray⟩ : ByteArray).toList) = (l == l') := by
  rw [ByteArray.toList_eq, ByteArray.toList_eq]
theorem PackSorts : cubbylaw02_PackSorts.Pure := by
  intro a b _ _
  have ha := pack_Writer_Number.clamp_lt a
  have hb := pack_Writer_Number.clamp_lt b
  have la := pack_Writer_Number.code_len 7 _ ha
  have pa := List.length_pos_iff.2 (pack_Writer_Number.code_ne (pack_Writer_Number.clamp a))
  have hmono := code_mono (pack_Writer_Number.clamp b + 1) (pack_Writer_Number.clamp a) (pack_Writer_Number.clamp b)
  have hinj := code_inj (pack_Writer_Number.clamp a + 1) (pack_Writer_Number.clamp a) (pack_Writer_Number.clamp b) (by omega)
  have hone := code_one (pack_Writer_Number.clamp a)
  have ra := rcode_ev a
  have rb := rcode_ev b
  have ma := mx_clamp a
  have mb := mx_clamp b
  have ea : cubbylaw02_code.f a = some ⟨(pack_Writer_Number.code (pack_Writer_Number.clamp a)).toArray⟩ := rfl
  have eb : cubbylaw02_code.f b = some ⟨(pack_Writer_Number.code (pack_Writer_Number.clamp b)).toArray⟩ := rfl
  generalize pack_Writer_Number.clamp a = m at *
  generalize pack_Writer_Number.clamp b = n at *
  generalize hA : pack_Writer_Number.code m = A at *
  generalize hB : pack_Writer_Number.code n = B at *
  obtain ⟨k1, h1⟩ := ra
  obtain ⟨k2, h2⟩ := rb
  have h1 := h1 (k1 + k2 + 1) (by omega)
  have h2 := h2 (k1 + k2 + 1) (by omega)
  simp only at h1 h2
  have sA : ((⟨A.toArray⟩ : ByteArray).size : Int) = (A.length : Int) := by simp [ByteArray.size]
  have sB : ((⟨B.toArray⟩ : ByteArray).size : Int) = (B.length : Int) := by simp [ByteArray.size]
  have fin : ((A == B) == ((m : Int) == (n : Int))) = true := by
    rw [beq_iff_eq]
    by_cases e : m = n
    · rw [← hA, ← hB, e, beq_self_eq_true, beq_self_eq_true]
    · rw [beq_eq_false_iff_ne.2 (fun h => e (hinj h)), beq_eq_false_iff_ne.2 (by omega)]
  have fin2 : ((decide ((m : Int) < 128)) == ((A.length : Int) == 1)) = true := by
    rw [beq_iff_eq]
    by_cases e : m < 128
    · rw [decide_eq_true (by omega), beq_iff_eq.2 (by have := hone.2 e; omega)]
    · rw [decide_eq_false (by omega), beq_eq_false_iff_ne.2 (by intro h; exact e (hone.1 (by omega)))]
  refine ⟨k1 + k2 + 1, ?_⟩
  unfold cubbylaw02_PackSorts.f
  rw [ea, bnd, eb, bnd, h1, bnd, if_pos rfl, h2, bnd, if_pos rfl, ma, mb, sA, if_neg (by omega), decide_eq_false (by omega)]
  simp only [cubbylaw02_PackSorts.j0]
  rw [if_neg (by simp), bytes_beq, sA, sB, if_pos fin, fin2]
  by_cases e : (A.length : Int) > (B.length : Int)
  · rw [if_pos e, if_neg (by intro h; have := hmono (by omega) (by omega); omega)]
  · rw [if_neg e]

end Go.Proofs.Ytmecbfadhacajaa.Pure
